/-
  Parts of a proof: YtiallbcnaadmoaaKS1, YtiallbcnaadmoaaKS2, YtiallbcnaadmoaaKS3.
-/
import Derived.Test.YtiallbcnaadmoaaM7
set_option linter.unusedSimpArgs false
set_option linter.unusedVariables false
section
namespace Go.Am
set_option maxRecDepth 8000
set_option maxHeartbeats 4000000
set_option linter.unusedSimpArgs false
set_option linter.unusedVariables false
noncomputable section
variable (p : FuncId → Option (List AV → List Blk → Option Res))
def Jda  (r : T_pagemenddraw_Codes) : Option Res := some (.ptr 0 0, [.box (List.map AV.p (J0 r))])
def J7k (x0 : List Int) : Option (T_pagemenddraw_Codes) :=
  some (⟨x0, 0⟩ : T_pagemenddraw_Codes)
theorem Jf6 {x0 : List Int} {o : T_pagemenddraw_Codes} (h : J7k x0 = some o) :
    rk (J1 p) J6r 0 [] (X (J1 p) Jb0 ⟨[(0, .p (.sl 1 (List.map (r_i .u8) x0)))], []⟩) = Jda o := by
  unfold J7k at h
  obtain rfl := sj h
  try simp only [↓Da, Ua, Jb0, Jg, JnC, ↓reduceIte, Nat.reduceEqDiff, Nat.reduceAdd, Nat.reduceLT, Nat.reduceMul]
  rfl
def J5A (x0 : List Int) (x1 : Int) : Option (T_pagemenddraw_Codes) :=
  if (decide (((List.length x0 : Nat) : Int) > x1)) then
    Option.bind (J22 x0 none (some x1)) fun m2 =>
    J7k m2
  else
    J7k x0
theorem JiZ {x0 : List Int} {x1 : Int} {o : T_pagemenddraw_Codes} (h : J5A x0 x1 = some o) :
    rk (J1 p) J6r 0 [] (X (J1 p) J7G ⟨[(0, .p (.sl 1 (List.map (r_i .u8) x0))), (1, .p (.i .i64 x1))], []⟩) = Jda o := by
  unfold J5A at h
  rcases Je h with ⟨h1, h⟩ | ⟨h1, h⟩
  · obtain ⟨m2, h3, h⟩ := bi h
    have f4 : J7p 1 (.p (.sl 1 (List.map (r_i .u8) x0))) none (some (.p (.i .i64 x1))) = some (.p (.sl 1 (List.map (r_i .u8) m2))) := Joo (k := .i64) (lo := none) (hi := (some x1)) h3
    try simp only [Nf] at f4
    try simp only [↓Da, Ua, J7G, Jg, *, ↓reduceIte, Nat.reduceEqDiff, Nat.reduceAdd, Nat.reduceLT, Nat.reduceMul]
    have e0 := Jf6 p h
    exact e0
  · try simp only [↓Da, Ua, J7G, Jg, *, ↓reduceIte, Nat.reduceEqDiff, Nat.reduceAdd, Nat.reduceLT, Nat.reduceMul]
    have e0 := Jf6 p h
    exact e0
theorem JnZ {x0 : List Int} {x1 : Int} {o : T_pagemenddraw_Codes} (h : J5A x0 x1 = some o) : AF (J1 p) J6u [.p (.sl 1 (List.map (r_i .u8) x0)), .p (.i .i64 x1)] [] = Jda o :=
  (J14 (J1 p) (JnE p) rfl).trans (JiZ p h)
def J5X  (r : Int × T_pagemenddraw_Codes) : Option Res := some (.p (.i .i64 r.1), [.box (List.map AV.p (J0 r.2))])
def J2h (rec : T_pagemenddraw_Codes → Int → Option (Int × T_pagemenddraw_Codes)) (b0 : T_pagemenddraw_Codes) (x1 : Int) : Option (Int × T_pagemenddraw_Codes) :=
  if (decide (b0.at_ ≥ ((List.length b0.l_ : Nat) : Int))) then
    some (0, b0)
  else
    if (decide (x1 < 1)) then
      some (0, b0)
    else
      Option.bind (idx b0.l_ b0.at_) fun y3 =>
      if (decide (x1 > 256)) then
        Option.bind (rec (⟨b0.l_, (IntKind.wrap .i64 (b0.at_ + 1))⟩ : T_pagemenddraw_Codes) 256) fun r7 =>
        Option.bind (Jcb (IntKind.wrap .i64 ((IntKind.wrap .i64 (256 * (IntKind.wrap .i64 y3))) + r7.1)) x1) fun q10 =>
        some (q10, r7.2)
      else
        Option.bind (Jcb (IntKind.wrap .i64 y3) x1) fun q12 =>
        some (q12, (⟨b0.l_, (IntKind.wrap .i64 (b0.at_ + 1))⟩ : T_pagemenddraw_Codes))
theorem Jcr {rec : T_pagemenddraw_Codes → Int → Option (Int × T_pagemenddraw_Codes)} (hrec : ∀ {b0 : T_pagemenddraw_Codes} {x1 : Int} {o : Int × T_pagemenddraw_Codes}, rec b0 x1 = some o → AF (J1 p) Jk [.ptr 0 0, .p (.i .i64 x1)] [.box (List.map AV.p (J0 b0))] = J5X o) {b0 : T_pagemenddraw_Codes} {x1 : Int} {o : Int × T_pagemenddraw_Codes} (h : J2h rec b0 x1 = some o) :
    rk (J1 p) J3H 1 [] (X (J1 p) J1r ⟨[(0, .ptr 0 0), (1, .p (.i .i64 x1))], [.box (List.map AV.p (J0 b0))]⟩) = J5X o := by
  unfold J2h at h
  rcases Je h with ⟨h1, h⟩ | ⟨h1, h⟩
  · obtain rfl := sj h
    try simp only [↓Da, Ua, J1r, Jg, J60, *, ↓reduceIte, Nat.reduceEqDiff, Nat.reduceAdd, Nat.reduceLT, Nat.reduceMul]
    rfl
  · try simp only [↓Da, Ua, J1r, Jg, *, ↓reduceIte, Nat.reduceEqDiff, Nat.reduceAdd, Nat.reduceLT, Nat.reduceMul]
    rcases Je h with ⟨h2, h⟩ | ⟨h2, h⟩
    · obtain rfl := sj h
      try simp only [↓Da, Ua, J1r, Jg, J60, *, ↓reduceIte, Nat.reduceEqDiff, Nat.reduceAdd, Nat.reduceLT, Nat.reduceMul]
      rfl
    · obtain ⟨y3, h4, h⟩ := bi h
      have f5 := JbA (r := (r_i .u8)) h4
      try simp only [Nf] at f5
      try simp only [↓Da, Ua, J1r, Jg, *, ↓reduceIte, Nat.reduceEqDiff, Nat.reduceAdd, Nat.reduceLT, Nat.reduceMul]
      rcases Je h with ⟨h6, h⟩ | ⟨h6, h⟩
      · obtain ⟨r7, h8, h⟩ := bi h
        have f9 : ∀ ws new s, J1o ws s [0] [List.map AV.p (J0 (⟨b0.l_, (IntKind.wrap .i64 (b0.at_ + 1))⟩ : T_pagemenddraw_Codes))] → (Jx (AF (J1 p)) Jk ([.ptr 0 0, .p (.i .i64 256)], ws) 0 new).run s = some ⟨.p (.i .i64 r7.1), ws ++ [(0, .box (List.map AV.p (J0 r7.2)))]⟩ := J10 (args' := [.ptr 0 0, .p (.i .i64 256)]) (bs := [0]) (css := [List.map AV.p (J0 (⟨b0.l_, (IntKind.wrap .i64 (b0.at_ + 1))⟩ : T_pagemenddraw_Codes))]) (css' := [List.map AV.p (J0 r7.2)]) rfl rfl rfl (by simp [J02, Jy]) (hrec h8) rfl rfl (by simp [J02, Jy])
        try simp only [Nf] at f9
        obtain ⟨q10, h11, h⟩ := bi h
        obtain rfl := sj h
        try simp only [↓Da, Ua, J1r, Jg, J60, *, ↓reduceIte, Nat.reduceEqDiff, Nat.reduceAdd, Nat.reduceLT, Nat.reduceMul]
        rfl
      · obtain ⟨q12, h13, h⟩ := bi h
        obtain rfl := sj h
        try simp only [↓Da, Ua, J1r, Jg, J60, *, ↓reduceIte, Nat.reduceEqDiff, Nat.reduceAdd, Nat.reduceLT, Nat.reduceMul]
        rfl
def J0Q : Nat → T_pagemenddraw_Codes → Int → Option (Int × T_pagemenddraw_Codes)
  | 0 => fun _ _ => none
  | n + 1 => J2h (J0Q n)
def JR : T_pagemenddraw_Codes → Int → Option (Int × T_pagemenddraw_Codes) := J0Q 12
theorem J9d : ∀ n, ∀ {b0 : T_pagemenddraw_Codes} {x1 : Int} {o : Int × T_pagemenddraw_Codes}, J0Q n b0 x1 = some o → AF (J1 p) Jk [.ptr 0 0, .p (.i .i64 x1)] [.box (List.map AV.p (J0 b0))] = J5X o
  | 0 => fun h => by cases h
  | n + 1 => fun h => (J14 (J1 p) (JfE p) rfl).trans (Jcr p (J9d n) h)
theorem J1q {b0 : T_pagemenddraw_Codes} {x1 : Int} {o : Int × T_pagemenddraw_Codes} (h : JR b0 x1 = some o) : AF (J1 p) Jk [.ptr 0 0, .p (.i .i64 x1)] [.box (List.map AV.p (J0 b0))] = J5X o := J9d p 12 h
def Jbz  (r : Ji × Int) : Option Res := some (.tup [.data (JE r.1), .p (.i .i64 r.2)], [])
def J1W (x0 : Int) : Option (Ji × Int) :=
  if (decide (x0 < 1)) then
    some ((⟨([] : List Jq)⟩ : Ji), 1)
  else
    if (decide (x0 > 64)) then
      some ((⟨([] : List Jq)⟩ : Ji), 1)
    else
      Option.bind (mkS 24 x0 x0 (⟨0, 0, 0⟩ : Jq)) fun m3 =>
      some ((⟨m3⟩ : Ji), 0)
theorem Je5 {x0 : Int} {o : Ji × Int} (h : J1W x0 = some o) :
    rk (J1 p) J4q 0 [] (X (J1 p) J2M ⟨[(0, .p (.i .i64 x0))], []⟩) = Jbz o := by
  unfold J1W at h
  rcases Je h with ⟨h1, h⟩ | ⟨h1, h⟩
  · obtain rfl := sj h
    try simp only [↓Da, Ua, J2M, Jc, Jn, J8K, *, ↓reduceIte, Nat.reduceEqDiff, Nat.reduceAdd, Nat.reduceLT, Nat.reduceMul]
    rfl
  · try simp only [↓Da, Ua, J2M, Jc, Jn, *, ↓reduceIte, Nat.reduceEqDiff, Nat.reduceAdd, Nat.reduceLT, Nat.reduceMul]
    rcases Je h with ⟨h2, h⟩ | ⟨h2, h⟩
    · obtain rfl := sj h
      try simp only [↓Da, Ua, J2M, Jc, Jn, J8K, *, ↓reduceIte, Nat.reduceEqDiff, Nat.reduceAdd, Nat.reduceLT, Nat.reduceMul]
      rfl
    · obtain ⟨m3, h4, h⟩ := bi h
      have f5 : (0 ≤ (x0 : Int) ∧ (x0 : Int) ≤ x0 ∧ ((24 : Nat) : Int) * x0 ≤ 281474976710656 ∧ (x0 : Int) ≤ 281474976710656) = True := eq_true (Jcq h4).1
      have f6 : List.replicate (Int.toNat x0) (Jj (⟨0, 0, 0⟩ : Jq)) = List.map Jj m3 := by rw [(Jcq h4).2, List.map_replicate]
      try simp only [Nf, Jc] at f6
      obtain rfl := sj h
      try simp only [↓Da, Ua, J2M, Jc, Jn, J8K, *, ↓reduceIte, Nat.reduceEqDiff, Nat.reduceAdd, Nat.reduceLT, Nat.reduceMul]
      rfl
theorem JhT {x0 : Int} {o : Ji × Int} (h : J1W x0 = some o) : AF (J1 p) J3x [.p (.i .i64 x0)] [] = Jbz o :=
  (J14 (J1 p) (JhC p) rfl).trans (Je5 p h)
theorem JbM {x0 : Int} {o : Ji × Int} (h : J1W x0 = some o) : ∀ ws new st, (Jx (AF (J1 p)) J3x ([.p (.i .i64 x0)], ws) 0 new).run st = some ⟨.tup [.data (JE o.1), .p (.i .i64 o.2)], ws⟩ := JW rfl (JhT p h) rfl
def J2J  (r : (List UInt8) × T_pagemenddraw_Codes) : Option Res := some (.p (.s r.1), [.box (List.map AV.p (J0 r.2))])
def Jeb (x3 : Int) (w1 : Bool) (o : (Int × T_pagemenddraw_Codes × (List Int)) ⊕ ((List UInt8) × T_pagemenddraw_Codes)) : Option Res := match o with
  | .inl s => rk (J1 p) J0U 1 [.bl 0, .sq (.keep [4] J2k)] (X (J1 p) (.lp 2 [0, 3, 4, 5] J1K) ⟨[(0, .ptr 0 0), (3, .p (.i .i64 x3)), (4, .slr 1 0 (List.length s.2.2)), (5, .p (.i .i64 s.1))], [.box (List.map AV.p (J0 s.2.1)), .arr w1 1 (List.map (r_i .u8) s.2.2)]⟩)
  | .inr o => J2J o
def J5g (b0 : T_pagemenddraw_Codes) (l1 : List Int) : Option ((List UInt8) × T_pagemenddraw_Codes) :=
  some ((toStr l1), b0)
theorem Jee {b0 : T_pagemenddraw_Codes} {l1 : List Int} {w1 : Bool} {o : (List UInt8) × T_pagemenddraw_Codes} (h : J5g b0 l1 = some o) :
    rk (J1 p) J0U 1 [] (X (J1 p) J2k ⟨[(4, .slr 1 0 (List.length l1))], [.box (List.map AV.p (J0 b0)), .arr w1 1 (List.map (r_i .u8) l1)]⟩) = J2J o := by
  unfold J5g at h
  obtain rfl := sj h
  try simp only [↓Da, Ua, J2k, JfC, ↓reduceIte, Nat.reduceEqDiff, Nat.reduceAdd, Nat.reduceLT, Nat.reduceMul]
  rfl
def J2j (x3 : Int) (x5 : Int) (b0 : T_pagemenddraw_Codes) (l1 : List Int) : Option (((Int × T_pagemenddraw_Codes × (List Int)) ⊕ ((List UInt8) × T_pagemenddraw_Codes))) :=
  if (decide (x5 < x3)) then
    Option.bind (JR b0 3) fun r2 =>
    Option.bind (JlE 1 l1 ([(IntKind.wrap .u8 (IntKind.wrap .i64 (97 + r2.1)))] : List Int)) fun m5 =>
    some (.inl ((IntKind.wrap .i64 (x5 + 1)), r2.2, m5))
  else
    Option.map (fun o => .inr o) (J5g b0 l1)
theorem J9g {x3 : Int} {x5 : Int} {b0 : T_pagemenddraw_Codes} {l1 : List Int} {w1 : Bool} {o : ((Int × T_pagemenddraw_Codes × (List Int)) ⊕ ((List UInt8) × T_pagemenddraw_Codes))} (h : J2j x3 x5 b0 l1 = some o) :
    rk (J1 p) J0U 1 [.lo 2 [0, 3, 4, 5] J1K, .bl 0, .sq (.keep [4] J2k)] (X (J1 p) J1K ⟨[(0, .ptr 0 0), (3, .p (.i .i64 x3)), (4, .slr 1 0 (List.length l1)), (5, .p (.i .i64 x5))], [.box (List.map AV.p (J0 b0)), .arr w1 1 (List.map (r_i .u8) l1)]⟩) = (Jeb p x3 w1) o := by
  unfold J2j at h
  rcases Je h with ⟨h1, h⟩ | ⟨h1, h⟩
  · obtain ⟨r2, h3, h⟩ := bi h
    have f4 : ∀ ws new s, J1o ws s [0] [List.map AV.p (J0 b0)] → (Jx (AF (J1 p)) Jk ([.ptr 0 0, .p (.i .i64 3)], ws) 0 new).run s = some ⟨.p (.i .i64 r2.1), ws ++ [(0, .box (List.map AV.p (J0 r2.2)))]⟩ := J10 (args' := [.ptr 0 0, .p (.i .i64 3)]) (bs := [0]) (css := [List.map AV.p (J0 b0)]) (css' := [List.map AV.p (J0 r2.2)]) rfl rfl rfl (by simp [J02, Jy]) (J1q p h3) rfl rfl (by simp [J02, Jy])
    try simp only [Nf] at f4
    obtain ⟨m5, h6, h⟩ := bi h
    have f7 : ∀ s : St, s.sto[1]? = some (.arr w1 1 (List.map (r_i .u8) l1)) → (J0q 1 (.p (.sl 1 (List.map (r_i .u8) ([(IntKind.wrap .u8 (IntKind.wrap .i64 (97 + r2.1)))] : List Int))))).run s = some (List.map (r_i .u8) ([(IntKind.wrap .u8 (IntKind.wrap .i64 (97 + r2.1)))] : List Int)) → (J6Z 1 1 (.slr 1 0 (List.length l1)) (.p (.sl 1 (List.map (r_i .u8) ([(IntKind.wrap .u8 (IntKind.wrap .i64 (97 + r2.1)))] : List Int))))).run s = some ⟨.slr 1 0 (List.length m5), [(1, .arr w1 1 (List.map (r_i .u8) m5))]⟩ := by
      intro s e1 e2; have e3 := Jsm h6 e1 e2; try simp only [List.length_cons, List.length_nil, Nat.zero_add] at e3
      exact e3
    try simp only [Nf] at f7
    obtain rfl := sj h
    try simp only [↓Da, Ua, J1K, Jg, *, ↓reduceIte, Nat.reduceEqDiff, Nat.reduceAdd, Nat.reduceLT, Nat.reduceMul]
    rfl
  · obtain ⟨o', h', rfl⟩ := mi h
    try simp only [↓Da, Ua, J1K, Jg, *, ↓reduceIte, Nat.reduceEqDiff, Nat.reduceAdd, Nat.reduceLT, Nat.reduceMul]
    have e0 := Jee p (w1 := w1) h'
    exact e0
def J9c (x3 : Int) (s : Int × T_pagemenddraw_Codes × (List Int)) : Option ((List UInt8) × T_pagemenddraw_Codes) :=
  JQ (fun s => J2j x3 s.1 s.2.1 s.2.2) s
theorem Jcz {x3 : Int} {w1 : Bool} {s : Int × T_pagemenddraw_Codes × (List Int)} {o : (List UInt8) × T_pagemenddraw_Codes} (h : J9c x3 s = some o) :
    rk (J1 p) J0U 1 [.bl 0, .sq (.keep [4] J2k)] (X (J1 p) (.lp 2 [0, 3, 4, 5] J1K) ⟨[(0, .ptr 0 0), (3, .p (.i .i64 x3)), (4, .slr 1 0 (List.length s.2.2)), (5, .p (.i .i64 s.1))], [.box (List.map AV.p (J0 s.2.1)), .arr w1 1 (List.map (r_i .u8) s.2.2)]⟩) = J2J o := by
  have h0 : JQ (fun s => J2j x3 s.1 s.2.1 s.2.2) s = some o := h
  exact J3l (P := fun (s : Int × T_pagemenddraw_Codes × (List Int)) (o : (List UInt8) × T_pagemenddraw_Codes) => rk (J1 p) J0U 1 [.bl 0, .sq (.keep [4] J2k)] (X (J1 p) (.lp 2 [0, 3, 4, 5] J1K) ⟨[(0, .ptr 0 0), (3, .p (.i .i64 x3)), (4, .slr 1 0 (List.length s.2.2)), (5, .p (.i .i64 s.1))], [.box (List.map AV.p (J0 s.2.1)), .arr w1 1 (List.map (r_i .u8) s.2.2)]⟩) = J2J o) (fun s r hs => by rw [J4p]; exact J9g p hs) (fun s s1 r hs ih => by rw [J4p]; exact (J9g p hs).trans ih) h0
def J2T (x3 : Int) (b0 : T_pagemenddraw_Codes) : Option ((List UInt8) × T_pagemenddraw_Codes) :=
  Option.bind (mkS 1 0 x3 0) fun m1 =>
  J9c x3 (0, b0, m1)
theorem J9k {x3 : Int} {b0 : T_pagemenddraw_Codes} {o : (List UInt8) × T_pagemenddraw_Codes} (h : J2T x3 b0 = some o) :
    rk (J1 p) J0U 1 [] (X (J1 p) J6W ⟨[(0, .ptr 0 0), (3, .p (.i .i64 x3))], [.box (List.map AV.p (J0 b0))]⟩) = J2J o := by
  unfold J2T at h
  obtain ⟨m1, h2, h⟩ := bi h
  have f3 : (0 ≤ (0 : Int) ∧ (0 : Int) ≤ x3 ∧ ((1 : Nat) : Int) * x3 ≤ 281474976710656 ∧ (x3 : Int) ≤ 281474976710656) = True := eq_true (Jcq h2).1
  have f4 : List.replicate (Int.toNat 0) ((r_i .u8) 0) = List.map (r_i .u8) m1 := by rw [(Jcq h2).2, List.map_replicate]
  try simp only [Nf] at f4
  have g5 : List.length m1 = Int.toNat 0 := by rw [(Jcq h2).2, List.length_replicate]
  try simp only [↓Da, Ua, J6W, *, ↓reduceIte, Nat.reduceEqDiff, Nat.reduceAdd, Nat.reduceLT, Nat.reduceMul]
  have e0 := Jcz p (w1 := true) h
  try simp only [g5] at e0
  exact e0
def J3I (b0 : T_pagemenddraw_Codes) : Option ((List UInt8) × T_pagemenddraw_Codes) :=
  Option.bind (JR b0 5) fun r1 =>
  Option.bind (JR r1.2 6) fun r4 =>
  if ((r4.1 : Int) == 0) then
    Option.bind (JR r4.2 14) fun r8 =>
    J2T r8.1 r8.2
  else
    J2T r1.1 r4.2
theorem JcA {b0 : T_pagemenddraw_Codes} {o : (List UInt8) × T_pagemenddraw_Codes} (h : J3I b0 = some o) :
    rk (J1 p) J0U 1 [] (X (J1 p) J2E ⟨[(0, .ptr 0 0)], [.box (List.map AV.p (J0 b0))]⟩) = J2J o := by
  unfold J3I at h
  obtain ⟨r1, h2, h⟩ := bi h
  have f3 : ∀ ws new s, J1o ws s [0] [List.map AV.p (J0 b0)] → (Jx (AF (J1 p)) Jk ([.ptr 0 0, .p (.i .i64 5)], ws) 0 new).run s = some ⟨.p (.i .i64 r1.1), ws ++ [(0, .box (List.map AV.p (J0 r1.2)))]⟩ := J10 (args' := [.ptr 0 0, .p (.i .i64 5)]) (bs := [0]) (css := [List.map AV.p (J0 b0)]) (css' := [List.map AV.p (J0 r1.2)]) rfl rfl rfl (by simp [J02, Jy]) (J1q p h2) rfl rfl (by simp [J02, Jy])
  try simp only [Nf] at f3
  obtain ⟨r4, h5, h⟩ := bi h
  have f6 : ∀ ws new s, J1o ws s [0] [List.map AV.p (J0 r1.2)] → (Jx (AF (J1 p)) Jk ([.ptr 0 0, .p (.i .i64 6)], ws) 0 new).run s = some ⟨.p (.i .i64 r4.1), ws ++ [(0, .box (List.map AV.p (J0 r4.2)))]⟩ := J10 (args' := [.ptr 0 0, .p (.i .i64 6)]) (bs := [0]) (css := [List.map AV.p (J0 r1.2)]) (css' := [List.map AV.p (J0 r4.2)]) rfl rfl rfl (by simp [J02, Jy]) (J1q p h5) rfl rfl (by simp [J02, Jy])
  try simp only [Nf] at f6
  try simp only [↓Da, Ua, J2E, Jg, *, ↓reduceIte, Nat.reduceEqDiff, Nat.reduceAdd, Nat.reduceLT, Nat.reduceMul]
  rcases Je h with ⟨h7, h⟩ | ⟨h7, h⟩
  · have h7n : ((r4.1 : Int) != 0) = false := by rw [bne, h7]; rfl
    obtain ⟨r8, h9, h⟩ := bi h
    have f10 : ∀ ws new s, J1o ws s [0] [List.map AV.p (J0 r4.2)] → (Jx (AF (J1 p)) Jk ([.ptr 0 0, .p (.i .i64 14)], ws) 0 new).run s = some ⟨.p (.i .i64 r8.1), ws ++ [(0, .box (List.map AV.p (J0 r8.2)))]⟩ := J10 (args' := [.ptr 0 0, .p (.i .i64 14)]) (bs := [0]) (css := [List.map AV.p (J0 r4.2)]) (css' := [List.map AV.p (J0 r8.2)]) rfl rfl rfl (by simp [J02, Jy]) (J1q p h9) rfl rfl (by simp [J02, Jy])
    try simp only [Nf] at f10
    try simp only [↓Da, Ua, J2E, Jg, *, ↓reduceIte, Nat.reduceEqDiff, Nat.reduceAdd, Nat.reduceLT, Nat.reduceMul]
    have e0 := J9k p h
    exact e0
  · have h7n : ((r4.1 : Int) != 0) = true := by rw [bne, h7]; rfl
    try simp only [↓Da, Ua, J2E, Jg, *, ↓reduceIte, Nat.reduceEqDiff, Nat.reduceAdd, Nat.reduceLT, Nat.reduceMul]
    have e0 := J9k p h
    exact e0
theorem JfA {b0 : T_pagemenddraw_Codes} {o : (List UInt8) × T_pagemenddraw_Codes} (h : J3I b0 = some o) : AF (J1 p) J3G [.ptr 0 0] [.box (List.map AV.p (J0 b0))] = J2J o :=
  (J14 (J1 p) (Jg3 p) rfl).trans (JcA p h)
def Jgk (r : List UInt8) : Option Res := some (.p (.s r), [])
def J4S (x0 : List UInt8) (x1 : Int) (x2 : Int) : Option (List UInt8) := Jj0 x0 x1 x2
theorem Jmy {x0 : List UInt8} {x1 : Int} {x2 : Int} {o : List UInt8} (h : J4S x0 x1 x2 = some o) : AF (J1 p) J21 [.p (.s x0), .p (.i .i64 x1), .p (.i .i64 x2)] [] = Jgk o := by
  rw [JmU (JmF p)]
  have h' : Jj0 x0 x1 x2 = some o := h
  simp only [Jla, h', Option.map_some, Jgk]
theorem J82 {x0 : List UInt8} {x1 : Int} {x2 : Int} {o : List UInt8} (h : J4S x0 x1 x2 = some o) : ∀ ws new st, (Jx (AF (J1 p)) J21 ([.p (.s x0), .p (.i .i64 x1), .p (.i .i64 x2)], ws) 0 new).run st = some ⟨.p (.s o), ws⟩ := JW rfl (Jmy p h) rfl
def JdQ (x0 : List UInt8) : Option ((List UInt8)) :=
  some x0
def J8d (x1 : Int) (x2 : Int) (x0 : List UInt8) (x7 : Int) : Option ((((List UInt8) × Int) ⊕ ((List UInt8)))) :=
  if (decide (x7 < x2)) then
    Option.bind (J8p .u64 (IntKind.wrap .u64 x1) (IntKind.wrap .u64 (IntKind.wrap .i64 (8 * x7)))) fun q2 =>
    Option.bind (J37 x0 (toStr ([(IntKind.wrap .u8 q2)] : List Int))) fun s5 =>
    some (.inl (s5, (IntKind.wrap .i64 (x7 + 1))))
  else
    Option.map (fun o => .inr o) (JdQ x0)
def Jkf (x1 : Int) (x2 : Int) (s : (List UInt8) × Int) : Option ((List UInt8)) :=
  JQ (fun s => J8d x1 x2 s.1 s.2) s
def J2u (x0 : List UInt8) (x1 : Int) (x2 : Int) : Option ((List UInt8)) :=
  if (decide (x2 < 1)) then
    some x0
  else
    if (decide (x2 > 8)) then
      some x0
    else
      Jkf x1 x2 (x0, 0)
def J6H  (r : Int × Int) : Option Res := some (.tup [.p (.i .i64 r.1), .p (.i .i64 r.2)], [])
def Jkt (x0 : List UInt8) (x1 : Int) (x34 : Int) (o : (Int × Int) ⊕ (Int × Int)) : Option Res := match o with
  | .inl s => rk (J1 p) J30 0 [.bl 1, .sq (.keep [8] J4x)] (X (J1 p) (.lp 0 [0, 1, 8, 34, 35] J3T) ⟨[(0, .p (.s x0)), (1, .p (.i .i64 x1)), (8, .p (.i .u64 s.1)), (34, .p (.i .i64 x34)), (35, .p (.i .i64 s.2))], []⟩)
  | .inr o => J6H o
def J4C (x8 : Int) : Option (Int × Int) :=
  some ((IntKind.wrap .i64 x8), 0)
theorem Jk9 {x8 : Int} {o : Int × Int} (h : J4C x8 = some o) :
    rk (J1 p) J30 0 [] (X (J1 p) J4x ⟨[(8, .p (.i .u64 x8))], []⟩) = J6H o := by
  unfold J4C at h
  obtain rfl := sj h
  try simp only [↓Da, Ua, J4x, J6M, ↓reduceIte, Nat.reduceEqDiff, Nat.reduceAdd, Nat.reduceLT, Nat.reduceMul]
  rfl
def J0t (x0 : List UInt8) (x1 : Int) (x34 : Int) (x8 : Int) (x35 : Int) : Option (((Int × Int) ⊕ (Int × Int))) :=
  if (decide (x35 < x34)) then
    Option.bind (Jbq x0 (IntKind.wrap .i64 (x1 + x35))) fun c2 =>
    Option.bind (Jc6 .u64 (IntKind.wrap .u64 c2) (IntKind.wrap .i64 (8 * x35))) fun q4 =>
    some (.inl ((orI .u64 x8 q4), (IntKind.wrap .i64 (x35 + 1))))
  else
    Option.map (fun o => .inr o) (J4C x8)
theorem Je3 {x0 : List UInt8} {x1 : Int} {x34 : Int} {x8 : Int} {x35 : Int} {o : ((Int × Int) ⊕ (Int × Int))} (h : J0t x0 x1 x34 x8 x35 = some o) :
    rk (J1 p) J30 0 [.lo 0 [0, 1, 8, 34, 35] J3T, .bl 1, .sq (.keep [8] J4x)] (X (J1 p) J3T ⟨[(0, .p (.s x0)), (1, .p (.i .i64 x1)), (8, .p (.i .u64 x8)), (34, .p (.i .i64 x34)), (35, .p (.i .i64 x35))], []⟩) = (Jkt p x0 x1 x34) o := by
  unfold J0t at h
  rcases Je h with ⟨h1, h⟩ | ⟨h1, h⟩
  · obtain ⟨c2, h3, h⟩ := bi h
    obtain ⟨q4, h5, h⟩ := bi h
    obtain rfl := sj h
    try simp only [↓Da, Ua, J3T, *, ↓reduceIte, Nat.reduceEqDiff, Nat.reduceAdd, Nat.reduceLT, Nat.reduceMul]
    rfl
  · obtain ⟨o', h', rfl⟩ := mi h
    try simp only [↓Da, Ua, J3T, *, ↓reduceIte, Nat.reduceEqDiff, Nat.reduceAdd, Nat.reduceLT, Nat.reduceMul]
    have e0 := Jk9 p h'
    exact e0
def Ja1 (x0 : List UInt8) (x1 : Int) (x34 : Int) (s : Int × Int) : Option (Int × Int) :=
  JQ (fun s => J0t x0 x1 x34 s.1 s.2) s
theorem JhI {x0 : List UInt8} {x1 : Int} {x34 : Int} {s : Int × Int} {o : Int × Int} (h : Ja1 x0 x1 x34 s = some o) :
    rk (J1 p) J30 0 [.bl 1, .sq (.keep [8] J4x)] (X (J1 p) (.lp 0 [0, 1, 8, 34, 35] J3T) ⟨[(0, .p (.s x0)), (1, .p (.i .i64 x1)), (8, .p (.i .u64 s.1)), (34, .p (.i .i64 x34)), (35, .p (.i .i64 s.2))], []⟩) = J6H o := by
  have h0 : JQ (fun s => J0t x0 x1 x34 s.1 s.2) s = some o := h
  exact J3l (P := fun (s : Int × Int) (o : Int × Int) => rk (J1 p) J30 0 [.bl 1, .sq (.keep [8] J4x)] (X (J1 p) (.lp 0 [0, 1, 8, 34, 35] J3T) ⟨[(0, .p (.s x0)), (1, .p (.i .i64 x1)), (8, .p (.i .u64 s.1)), (34, .p (.i .i64 x34)), (35, .p (.i .i64 s.2))], []⟩) = J6H o) (fun s r hs => by rw [J4p]; exact Je3 p hs) (fun s s1 r hs ih => by rw [J4p]; exact (Je3 p hs).trans ih) h0
def J0o (x0 : List UInt8) (x1 : Int) (x2 : Int) : Option (Int × Int) :=
  if (decide (x2 < 1)) then
    some (0, 1)
  else
    if (decide (x2 > 8)) then
      some (0, 1)
    else
      if (decide (x1 < 0)) then
        some (0, 1)
      else
        if (decide (x1 > ((List.length x0 : Nat) : Int))) then
          some (0, 5)
        else
          if (decide ((IntKind.wrap .i64 (((List.length x0 : Nat) : Int) - x1)) < x2)) then
            some (0, 5)
          else
            Ja1 x0 x1 x2 (0, 0)
theorem Ji1 {x0 : List UInt8} {x1 : Int} {x2 : Int} {o : Int × Int} (h : J0o x0 x1 x2 = some o) :
    rk (J1 p) J30 0 [] (X (J1 p) J20 ⟨[(0, .p (.s x0)), (1, .p (.i .i64 x1)), (2, .p (.i .i64 x2))], []⟩) = J6H o := by
  unfold J0o at h
  rcases Je h with ⟨h1, h⟩ | ⟨h1, h⟩
  · obtain rfl := sj h
    try simp only [↓Da, Ua, J20, J6M, *, ↓reduceIte, Nat.reduceEqDiff, Nat.reduceAdd, Nat.reduceLT, Nat.reduceMul]
    rfl
  · try simp only [↓Da, Ua, J20, *, ↓reduceIte, Nat.reduceEqDiff, Nat.reduceAdd, Nat.reduceLT, Nat.reduceMul]
    rcases Je h with ⟨h2, h⟩ | ⟨h2, h⟩
    · obtain rfl := sj h
      try simp only [↓Da, Ua, J20, J6M, *, ↓reduceIte, Nat.reduceEqDiff, Nat.reduceAdd, Nat.reduceLT, Nat.reduceMul]
      rfl
    · try simp only [↓Da, Ua, J20, *, ↓reduceIte, Nat.reduceEqDiff, Nat.reduceAdd, Nat.reduceLT, Nat.reduceMul]
      rcases Je h with ⟨h3, h⟩ | ⟨h3, h⟩
      · obtain rfl := sj h
        try simp only [↓Da, Ua, J20, J6M, *, ↓reduceIte, Nat.reduceEqDiff, Nat.reduceAdd, Nat.reduceLT, Nat.reduceMul]
        rfl
      · try simp only [↓Da, Ua, J20, *, ↓reduceIte, Nat.reduceEqDiff, Nat.reduceAdd, Nat.reduceLT, Nat.reduceMul]
        rcases Je h with ⟨h4, h⟩ | ⟨h4, h⟩
        · obtain rfl := sj h
          try simp only [↓Da, Ua, J20, J6M, *, ↓reduceIte, Nat.reduceEqDiff, Nat.reduceAdd, Nat.reduceLT, Nat.reduceMul]
          rfl
        · try simp only [↓Da, Ua, J20, *, ↓reduceIte, Nat.reduceEqDiff, Nat.reduceAdd, Nat.reduceLT, Nat.reduceMul]
          rcases Je h with ⟨h5, h⟩ | ⟨h5, h⟩
          · obtain rfl := sj h
            try simp only [↓Da, Ua, J20, J6M, *, ↓reduceIte, Nat.reduceEqDiff, Nat.reduceAdd, Nat.reduceLT, Nat.reduceMul]
            rfl
          · try simp only [↓Da, Ua, J20, *, ↓reduceIte, Nat.reduceEqDiff, Nat.reduceAdd, Nat.reduceLT, Nat.reduceMul]
            have e0 := JhI p h
            exact e0
theorem Jmk {x0 : List UInt8} {x1 : Int} {x2 : Int} {o : Int × Int} (h : J0o x0 x1 x2 = some o) : AF (J1 p) J6O [.p (.s x0), .p (.i .i64 x1), .p (.i .i64 x2)] [] = J6H o :=
  (J14 (J1 p) (JmP p) rfl).trans (Ji1 p h)
theorem Jmj {x0 : List UInt8} {x1 : Int} {x2 : Int} {o : Int × Int} (h : J0o x0 x1 x2 = some o) : ∀ ws new st, (Jx (AF (J1 p)) J6O ([.p (.s x0), .p (.i .i64 x1), .p (.i .i64 x2)], ws) 0 new).run st = some ⟨.tup [.p (.i .i64 o.1), .p (.i .i64 o.2)], ws⟩ := JW rfl (Jmk p h) rfl
def Jak  (r : J5 × T_pagemenddraw_Codes) : Option Res := some (.data (Jd r.1), [.box (List.map AV.p (J0 r.2))])
def J3K (b0 : T_pagemenddraw_Codes) : Option (J5 × T_pagemenddraw_Codes) :=
  Option.bind (JR b0 3) fun r1 =>
  if ((r1.1 : Int) == 0) then
    some ((⟨false, ([] : List UInt8)⟩ : J5), r1.2)
  else
    Option.bind (J3I r1.2) fun r5 =>
    Option.bind (J22 r5.1 none (some (Jho ((List.length r5.1 : Nat) : Int) 12))) fun m8 =>
    some ((⟨true, m8⟩ : J5), r5.2)
theorem JcP {b0 : T_pagemenddraw_Codes} {o : J5 × T_pagemenddraw_Codes} (h : J3K b0 = some o) :
    rk (J1 p) J3J 1 [] (X (J1 p) J2C ⟨[(0, .ptr 0 0)], [.box (List.map AV.p (J0 b0))]⟩) = Jak o := by
  unfold J3K at h
  obtain ⟨r1, h2, h⟩ := bi h
  have f3 : ∀ ws new s, J1o ws s [0] [List.map AV.p (J0 b0)] → (Jx (AF (J1 p)) Jk ([.ptr 0 0, .p (.i .i64 3)], ws) 0 new).run s = some ⟨.p (.i .i64 r1.1), ws ++ [(0, .box (List.map AV.p (J0 r1.2)))]⟩ := J10 (args' := [.ptr 0 0, .p (.i .i64 3)]) (bs := [0]) (css := [List.map AV.p (J0 b0)]) (css' := [List.map AV.p (J0 r1.2)]) rfl rfl rfl (by simp [J02, Jy]) (J1q p h2) rfl rfl (by simp [J02, Jy])
  try simp only [Nf] at f3
  try simp only [↓Da, Ua, J2C, J6, Jg, *, ↓reduceIte, Nat.reduceEqDiff, Nat.reduceAdd, Nat.reduceLT, Nat.reduceMul]
  rcases Je h with ⟨h4, h⟩ | ⟨h4, h⟩
  · have h4n : ((r1.1 : Int) != 0) = false := by rw [bne, h4]; rfl
    obtain rfl := sj h
    try simp only [↓Da, Ua, J2C, J6, Jg, Jan, *, ↓reduceIte, Nat.reduceEqDiff, Nat.reduceAdd, Nat.reduceLT, Nat.reduceMul]
    rfl
  · have h4n : ((r1.1 : Int) != 0) = true := by rw [bne, h4]; rfl
    obtain ⟨r5, h6, h⟩ := bi h
    have f7 : ∀ ws new s, J1o ws s [0] [List.map AV.p (J0 r1.2)] → (Jx (AF (J1 p)) J3G ([.ptr 0 0], ws) 0 new).run s = some ⟨.p (.s r5.1), ws ++ [(0, .box (List.map AV.p (J0 r5.2)))]⟩ := J10 (args' := [.ptr 0 0]) (bs := [0]) (css := [List.map AV.p (J0 r1.2)]) (css' := [List.map AV.p (J0 r5.2)]) rfl rfl rfl (by simp [J02, Jy]) (JfA p h6) rfl rfl (by simp [J02, Jy])
    try simp only [Nf] at f7
    obtain ⟨m8, h9, h⟩ := bi h
    have f10 : J5a (.p (.s r5.1)) none (some (.p (.i .i64 (Jho ((List.length r5.1 : Nat) : Int) 12)))) = some (.p (.s m8)) := J9O (k := .i64) (lo := none) (hi := (some (Jho ((List.length r5.1 : Nat) : Int) 12))) h9
    try simp only [Nf] at f10
    obtain rfl := sj h
    try simp only [↓Da, Ua, J2C, J6, Jg, Jan, *, ↓reduceIte, Nat.reduceEqDiff, Nat.reduceAdd, Nat.reduceLT, Nat.reduceMul]
    rfl
theorem JfO {b0 : T_pagemenddraw_Codes} {o : J5 × T_pagemenddraw_Codes} (h : J3K b0 = some o) : AF (J1 p) J3D [.ptr 0 0] [.box (List.map AV.p (J0 b0))] = Jak o :=
  (J14 (J1 p) (Jfx p) rfl).trans (JcP p h)
def J4u (x0 : Int) : Option ((List UInt8)) :=
  Option.bind (mkS 1 x0 x0 0) fun m1 =>
  some (toStr m1)
def J9Z (x0 : List UInt8) (x3 : Int) (x4 : Int) (x5 : Int) : Option (((Int × Int) ⊕ (((Int × Int) ⊕ (Int))))) :=
  some (.inl (x3, (IntKind.wrap .i64 (x5 + 1))))
def JdX (x0 : List UInt8) (x3 : Int) (x4 : Int) : Option (((Int × Int) ⊕ (Int))) :=
  some (.inl (x3, (IntKind.wrap .i64 (x4 + 1))))
def J8b (x0 : List UInt8) (x4 : Int) (x3 : Int) (x5 : Int) : Option (((Int × Int) ⊕ (((Int × Int) ⊕ (Int))))) :=
  if (decide (x5 < 8)) then
    if (((J4t .u32 x3 1) : Int) == 1) then
      Option.bind (J8p .u32 x3 1) fun q3 =>
      J9Z x0 (J56 .u32 q3 2197175160) x4 x5
    else
      Option.bind (J8p .u32 x3 1) fun q5 =>
      J9Z x0 q5 x4 x5
  else
    Option.map (fun o => .inr o) (JdX x0 x3 x4)
def Jka (x0 : List UInt8) (x4 : Int) (s : Int × Int) : Option (((Int × Int) ⊕ (Int))) :=
  JQ (fun s => J8b x0 x4 s.1 s.2) s
def Je2 (x3 : Int) : Option (Int) :=
  some (Jjd .u32 x3)
def J8f (x0 : List UInt8) (x3 : Int) (x4 : Int) : Option (((Int × Int) ⊕ (Int))) :=
  if (decide (x4 < ((List.length x0 : Nat) : Int))) then
    Option.bind (Jbq x0 x4) fun c2 =>
    Jka x0 x4 ((J56 .u32 x3 (IntKind.wrap .u32 c2)), 0)
  else
    Option.map (fun o => .inr o) (Je2 x3)
def JjV (x0 : List UInt8) (s : Int × Int) : Option (Int) :=
  JQ (fun s => J8f x0 s.1 s.2) s
def Jc9 (x0 : List UInt8) : Option (Int) :=
  JjV x0 (4294967295, 0)
def Jal  (r : Bool) : Option Res := some (.p (.b r), [])
def J1t (x0 : Ji) (x1 : Int) : Option (Bool) :=
  if (decide (x1 ≥ 0)) then
    some (decide (x1 < ((List.length x0.Rows : Nat) : Int)))
  else
    some false
theorem JcG {x0 : Ji} {x1 : Int} {o : Bool} (h : J1t x0 x1 = some o) :
    rk (J1 p) J3L 0 [] (X (J1 p) J3E ⟨[(0, .data (JE x0)), (1, .p (.i .i64 x1))], []⟩) = Jal o := by
  unfold J1t at h
  rcases Je h with ⟨h1, h⟩ | ⟨h1, h⟩
  · obtain rfl := sj h
    try simp only [↓Da, Ua, J3E, Jc, Jn, Jas, *, ↓reduceIte, Nat.reduceEqDiff, Nat.reduceAdd, Nat.reduceLT, Nat.reduceMul]
    rfl
  · obtain rfl := sj h
    try simp only [↓Da, Ua, J3E, Jc, Jn, Jas, *, ↓reduceIte, Nat.reduceEqDiff, Nat.reduceAdd, Nat.reduceLT, Nat.reduceMul]
    rfl
theorem JfY {x0 : Ji} {x1 : Int} {o : Bool} (h : J1t x0 x1 = some o) : AF (J1 p) J2I [.data (JE x0), .p (.i .i64 x1)] [] = Jal o :=
  (J14 (J1 p) (Jfy p) rfl).trans (JcG p h)
theorem Jat {x0 : Ji} {x1 : Int} {o : Bool} (h : J1t x0 x1 = some o) : ∀ ws new st, (Jx (AF (J1 p)) J2I ([.data (JE x0), .p (.i .i64 x1)], ws) 0 new).run st = some ⟨.p (.b o), ws⟩ := JW rfl (JfY p h) rfl
def J68  (r : Bool) : Option Res := some (.p (.b r), [])
def JiU (x6 : Vector J5 16) (b0 : T_api_Page) (o : (Int) ⊕ (Bool)) : Option Res := match o with
  | .inl s => rk (J1 p) J2p 0 [.bl 0, .td 1 [2], .sq (.keep [] J49)] (X (J1 p) (.lp 1 [1, 6, 7] J0J) ⟨[(1, .ptr 0 0), (6, .data ((J07 Jd) x6)), (7, .p (.i .i64 s))], [.box (List.map AV.p (J4 b0))]⟩)
  | .inr o => J68 o
def J6a  : Option (Bool) :=
  some true
theorem Jj8 {B0 : List PV} {o : Bool} (h : J6a = some o) :
    rk (J1 p) J2p 0 [] (X (J1 p) J49 ⟨[], [.box (List.map AV.p B0)]⟩) = J68 o := by
  unfold J6a at h
  obtain rfl := sj h
  try simp only [↓Da, Ua, J49, J93, ↓reduceIte, Nat.reduceEqDiff, Nat.reduceAdd, Nat.reduceLT, Nat.reduceMul]
  rfl
def J0r (x6 : Vector J5 16) (b0 : T_api_Page) (x7 : Int) : Option (((Int) ⊕ (Bool))) :=
  if (decide (x7 < 16)) then
    Option.bind (J5i x6 x7) fun y2 =>
    if (decide (((List.length y2.Data : Nat) : Int) > 12)) then
      some (.inr false)
    else
      if y2.Set then
        if ((b0.LSN : Int) == 0) then
          some (.inr false)
        else
          some (.inl (IntKind.wrap .i64 (x7 + 1)))
      else
        if (y2.Data == []) then
          some (.inl (IntKind.wrap .i64 (x7 + 1)))
        else
          some (.inr false)
  else
    Option.map (fun o => .inr o) (J6a)
theorem Jct {x6 : Vector J5 16} {b0 : T_api_Page} {x7 : Int} {o : ((Int) ⊕ (Bool))} (h : J0r x6 b0 x7 = some o) :
    rk (J1 p) J2p 0 [.lo 1 [1, 6, 7] J0J, .bl 0, .td 1 [2], .sq (.keep [] J49)] (X (J1 p) J0J ⟨[(1, .ptr 0 0), (6, .data ((J07 Jd) x6)), (7, .p (.i .i64 x7))], [.box (List.map AV.p (J4 b0))]⟩) = (JiU p x6 b0) o := by
  unfold J0r at h
  rcases Je h with ⟨h1, h⟩ | ⟨h1, h⟩
  · obtain ⟨y2, h3, h⟩ := bi h
    have f4 : (0 ≤ (x7 : Int) ∧ (x7 : Int) < ((16 : Nat) : Int)) = True := eq_true (J8s h3).1
    have f5 : sub (J07 Jd x6) (Int.toNat x7 * 2) 2 = some (Jd y2) := Jim JU (J8s h3).2
    try simp only [Nf] at f5
    try simp only [↓Da, Ua, J0J, J6, J2, Jf, *, ↓reduceIte, Nat.reduceEqDiff, Nat.reduceAdd, Nat.reduceLT, Nat.reduceMul]
    rcases Je h with ⟨h6, h⟩ | ⟨h6, h⟩
    · obtain rfl := sj h
      try simp only [↓Da, Ua, J0J, J6, J2, Jf, J93, *, ↓reduceIte, Nat.reduceEqDiff, Nat.reduceAdd, Nat.reduceLT, Nat.reduceMul]
      rfl
    · try simp only [↓Da, Ua, J0J, J6, J2, Jf, *, ↓reduceIte, Nat.reduceEqDiff, Nat.reduceAdd, Nat.reduceLT, Nat.reduceMul]
      rcases Je h with ⟨h7, h⟩ | ⟨h7, h⟩
      · try simp only [↓Da, Ua, J0J, J6, J2, Jf, *, ↓reduceIte, Nat.reduceEqDiff, Nat.reduceAdd, Nat.reduceLT, Nat.reduceMul]
        rcases Je h with ⟨h8, h⟩ | ⟨h8, h⟩
        · have h8n : ((b0.LSN : Int) != 0) = false := by rw [bne, h8]; rfl
          obtain rfl := sj h
          try simp only [↓Da, Ua, J0J, J6, J2, Jf, J93, *, ↓reduceIte, Nat.reduceEqDiff, Nat.reduceAdd, Nat.reduceLT, Nat.reduceMul]
          rfl
        · have h8n : ((b0.LSN : Int) != 0) = true := by rw [bne, h8]; rfl
          obtain rfl := sj h
          try simp only [↓Da, Ua, J0J, J6, J2, Jf, *, ↓reduceIte, Nat.reduceEqDiff, Nat.reduceAdd, Nat.reduceLT, Nat.reduceMul]
          rfl
      · try simp only [↓Da, Ua, J0J, J6, J2, Jf, *, ↓reduceIte, Nat.reduceEqDiff, Nat.reduceAdd, Nat.reduceLT, Nat.reduceMul]
        rcases Je h with ⟨h9, h⟩ | ⟨h9, h⟩
        · obtain rfl := sj h
          try simp only [↓Da, Ua, J0J, J6, J2, Jf, *, ↓reduceIte, Nat.reduceEqDiff, Nat.reduceAdd, Nat.reduceLT, Nat.reduceMul]
          rfl
        · obtain rfl := sj h
          try simp only [↓Da, Ua, J0J, J6, J2, Jf, J93, *, ↓reduceIte, Nat.reduceEqDiff, Nat.reduceAdd, Nat.reduceLT, Nat.reduceMul]
          rfl
  · obtain ⟨o', h', rfl⟩ := mi h
    try simp only [↓Da, Ua, J0J, J6, J2, Jf, *, ↓reduceIte, Nat.reduceEqDiff, Nat.reduceAdd, Nat.reduceLT, Nat.reduceMul]
    have e0 := Jj8 p (B0 := (J4 b0)) h'
    exact e0
def Jcn (x6 : Vector J5 16) (b0 : T_api_Page) (s : Int) : Option (Bool) :=
  JQ (fun s => J0r x6 b0 s) s
theorem Jhl {x6 : Vector J5 16} {b0 : T_api_Page} {s : Int} {o : Bool} (h : Jcn x6 b0 s = some o) :
    rk (J1 p) J2p 0 [.bl 0, .td 1 [2], .sq (.keep [] J49)] (X (J1 p) (.lp 1 [1, 6, 7] J0J) ⟨[(1, .ptr 0 0), (6, .data ((J07 Jd) x6)), (7, .p (.i .i64 s))], [.box (List.map AV.p (J4 b0))]⟩) = J68 o := by
  have h0 : JQ (fun s => J0r x6 b0 s) s = some o := h
  exact J3l (P := fun (s : Int) (o : Bool) => rk (J1 p) J2p 0 [.bl 0, .td 1 [2], .sq (.keep [] J49)] (X (J1 p) (.lp 1 [1, 6, 7] J0J) ⟨[(1, .ptr 0 0), (6, .data ((J07 Jd) x6)), (7, .p (.i .i64 s))], [.box (List.map AV.p (J4 b0))]⟩) = J68 o) (fun s r hs => by rw [J4p]; exact Jct p hs) (fun s s1 r hs ih => by rw [J4p]; exact (Jct p hs).trans ih) h0
def J4o (x0 : T_api_Page) : Option (Bool) :=
  Jcn x0.Cells x0 0
theorem JgN {x0 : T_api_Page} {o : Bool} (h : J4o x0 = some o) :
    rk (J1 p) J2p 0 [] (X (J1 p) J7m ⟨[(0, .data (J4 x0))], []⟩) = J68 o := by
  unfold J4o at h
  try simp only [↓Da, Ua, J7m, J6, J2, Jf, ↓reduceIte, Nat.reduceEqDiff, Nat.reduceAdd, Nat.reduceLT, Nat.reduceMul]
  have e0 := Jhl p h
  exact e0
theorem Jlt {x0 : T_api_Page} {o : Bool} (h : J4o x0 = some o) : AF (J1 p) J6g [.data (J4 x0)] [] = J68 o :=
  (J14 (J1 p) (Jlg p) rfl).trans (JgN p h)
theorem JlB {x0 : T_api_Page} {o : Bool} (h : J4o x0 = some o) : ∀ ws new st, (Jx (AF (J1 p)) J6g ([.data (J4 x0)], ws) 0 new).run st = some ⟨.p (.b o), ws⟩ := JW rfl (Jlt p h) rfl
end
end Go.Am
end
section
namespace Go.Am
set_option maxRecDepth 8000
set_option maxHeartbeats 4000000
set_option linter.unusedSimpArgs false
set_option linter.unusedVariables false
noncomputable section
variable (p : FuncId → Option (List AV → List Blk → Option Res))
def JaY (r : List UInt8) : Option Res := some (.p (.s r), [])
def J38 (x0 : List UInt8) (x1 : Int) : Option (List UInt8) := Jj3 x0 x1
theorem JgZ {x0 : List UInt8} {x1 : Int} {o : List UInt8} (h : J38 x0 x1 = some o) : AF (J1 p) J28 [.p (.s x0), .p (.i .i64 x1)] [] = JaY o := by
  rw [JmU (JgM p)]
  have h' : Jj3 x0 x1 = some o := h
  simp only [Jm4, h', Option.map_some, JaY]
theorem J8u {x0 : List UInt8} {x1 : Int} {o : List UInt8} (h : J38 x0 x1 = some o) : ∀ ws new st, (Jx (AF (J1 p)) J28 ([.p (.s x0), .p (.i .i64 x1)], ws) 0 new).run st = some ⟨.p (.s o), ws⟩ := JW rfl (JgZ p h) rfl
def J8P (x0 : T_api_Page) : Option (Bool) :=
  if (decide (x0.ID ≥ 0)) then
    if (decide (x0.ID < 64)) then
      if (decide (x0.LSN ≥ 0)) then
        some (decide (x0.LSN ≤ 1099511627776))
      else
        some false
    else
      some false
  else
    some false
def Je4 (x8 : Int) : Option (Int × Int) :=
  some ((IntKind.wrap .i64 x8), 0)
def Ja4 (x0 : List UInt8) (x1 : Int) (x2 : Int) (x8 : Int) (x9 : Int) : Option (((Int × Int) ⊕ (Int × Int))) :=
  if (decide (x9 < x2)) then
    Option.bind (Jbq x0 (IntKind.wrap .i64 (x1 + x9))) fun c2 =>
    Option.bind (Jc6 .u64 (IntKind.wrap .u64 c2) (IntKind.wrap .u64 (IntKind.wrap .i64 (8 * x9)))) fun q4 =>
    some (.inl ((orI .u64 x8 q4), (IntKind.wrap .i64 (x9 + 1))))
  else
    Option.map (fun o => .inr o) (Je4 x8)
def Je1 (x0 : List UInt8) (x1 : Int) (x2 : Int) (s : Int × Int) : Option (Int × Int) :=
  JQ (fun s => Ja4 x0 x1 x2 s.1 s.2) s
def J4R (x0 : List UInt8) (x1 : Int) (x2 : Int) : Option (Int × Int) :=
  if (decide (x2 < 1)) then
    some (0, 1)
  else
    if (decide (x2 > 8)) then
      some (0, 1)
    else
      if (decide (x1 < 0)) then
        some (0, 1)
      else
        if (decide (x1 > ((List.length x0 : Nat) : Int))) then
          some (0, 5)
        else
          if (decide ((IntKind.wrap .i64 (((List.length x0 : Nat) : Int) - x1)) < x2)) then
            some (0, 5)
          else
            Je1 x0 x1 x2 (0, 0)
def Jg9 (x0 : Int) : Option (T_api_Page) :=
  some (⟨x0, 0, (Vector.replicate 16 (⟨false, []⟩ : J5))⟩ : T_api_Page)
def J8R  (r : Bool) : Option Res := some (.p (.b r), [])
def J0E (x0 : Int) : Option (Bool) :=
  if (decide (x0 ≥ 0)) then
    some (decide (x0 ≤ 1099511627776))
  else
    some false
theorem JaX {x0 : Int} {o : Bool} (h : J0E x0 = some o) :
    rk (J1 p) J2y 0 [] (X (J1 p) J2v ⟨[(0, .p (.i .i64 x0))], []⟩) = J8R o := by
  unfold J0E at h
  rcases Je h with ⟨h1, h⟩ | ⟨h1, h⟩
  · obtain rfl := sj h
    try simp only [↓Da, Ua, J2v, J8G, *, ↓reduceIte, Nat.reduceEqDiff, Nat.reduceAdd, Nat.reduceLT, Nat.reduceMul]
    rfl
  · obtain rfl := sj h
    try simp only [↓Da, Ua, J2v, J8G, *, ↓reduceIte, Nat.reduceEqDiff, Nat.reduceAdd, Nat.reduceLT, Nat.reduceMul]
    rfl
theorem Jdy {x0 : Int} {o : Bool} (h : J0E x0 = some o) : AF (J1 p) J1y [.p (.i .i64 x0)] [] = J8R o :=
  (J14 (J1 p) (Jde p) rfl).trans (JaX p h)
theorem J6s {x0 : Int} {o : Bool} (h : J0E x0 = some o) : ∀ ws new st, (Jx (AF (J1 p)) J1y ([.p (.i .i64 x0)], ws) 0 new).run st = some ⟨.p (.b o), ws⟩ := JW rfl (Jdy p h) rfl
def JeA  (r : Bool) : Option Res := some (.p (.b r), [])
def J1e (x0 : Int) : Option (Bool) :=
  if (decide (x0 ≥ 0)) then
    some (decide (x0 < 64))
  else
    some false
theorem Jh8 {x0 : Int} {o : Bool} (h : J1e x0 = some o) :
    rk (J1 p) J6d 0 [] (X (J1 p) J6b ⟨[(0, .p (.i .i64 x0))], []⟩) = JeA o := by
  unfold J1e at h
  rcases Je h with ⟨h1, h⟩ | ⟨h1, h⟩
  · obtain rfl := sj h
    try simp only [↓Da, Ua, J6b, JeQ, *, ↓reduceIte, Nat.reduceEqDiff, Nat.reduceAdd, Nat.reduceLT, Nat.reduceMul]
    rfl
  · obtain rfl := sj h
    try simp only [↓Da, Ua, J6b, JeQ, *, ↓reduceIte, Nat.reduceEqDiff, Nat.reduceAdd, Nat.reduceLT, Nat.reduceMul]
    rfl
theorem Jm0 {x0 : Int} {o : Bool} (h : J1e x0 = some o) : AF (J1 p) J5b [.p (.i .i64 x0)] [] = JeA o :=
  (J14 (J1 p) (JlK p) rfl).trans (Jh8 p h)
theorem Jf2 {x0 : Int} {o : Bool} (h : J1e x0 = some o) : ∀ ws new st, (Jx (AF (J1 p)) J5b ([.p (.i .i64 x0)], ws) 0 new).run st = some ⟨.p (.b o), ws⟩ := JW rfl (Jm0 p h) rfl
def Jij  (r : T_api_Page) : Option Res := some (.data (J4 r), [])
def J7y (x0 : Int) : Option (T_api_Page) :=
  some (⟨x0, 0, (Vector.replicate 16 (⟨false, []⟩ : J5))⟩ : T_api_Page)
theorem JiM {x0 : Int} {o : T_api_Page} (h : J7y x0 = some o) :
    rk (J1 p) J7F 0 [] (X (J1 p) J8S ⟨[(0, .p (.i .i64 x0))], []⟩) = Jij o := by
  unfold J7y at h
  obtain rfl := sj h
  try simp only [↓Da, Ua, J8S, J6, J2, Jf, Jnr, ↓reduceIte, Nat.reduceEqDiff, Nat.reduceAdd, Nat.reduceLT, Nat.reduceMul]
  rfl
theorem Jo2 {x0 : Int} {o : T_api_Page} (h : J7y x0 = some o) : AF (J1 p) J7v [.p (.i .i64 x0)] [] = Jij o :=
  (J14 (J1 p) (JnY p) rfl).trans (JiM p h)
theorem JnH {x0 : Int} {o : T_api_Page} (h : J7y x0 = some o) : ∀ ws new st, (Jx (AF (J1 p)) J7v ([.p (.i .i64 x0)], ws) 0 new).run st = some ⟨.data (J4 o), ws⟩ := JW rfl (Jo2 p h) rfl
def J9F (x0 : Int) : Option (Bool) :=
  if (decide (x0 ≥ 0)) then
    some (decide (x0 ≤ 1099511627776))
  else
    some false
def J3k  (r : (Vector Int 16)) : Option Res := some (.data ((J07 (r_i .u32)) r), [])
def J2z (b0 : Vector Int 16) (o : (Int × (Vector Int 16)) ⊕ ((Vector Int 16))) : Option Res := match o with
  | .inl s => rk (J1 p) J0a 0 [.bl 0, .sq (.keep [0, 1] J0n)] (X (J1 p) (.lp 2 [0, 1, 4] J0h) ⟨[(0, .ptr 0 0), (1, .ptr 1 0), (4, .p (.i .i64 s.1))], [.box (List.map AV.p ((J07 (r_i .u32)) b0)), .box (List.map AV.p ((J07 (r_i .u32)) s.2))]⟩)
  | .inr o => J3k o
def Jdf (x2 : Int) (x4 : Int) (b0 : Vector Int 16) (b1 : Vector Int 16) (o : (Int × Int) ⊕ (((Int × (Vector Int 16)) ⊕ ((Vector Int 16))))) : Option Res := match o with
  | .inl s => rk (J1 p) J0a 0 [.bl 2, .sq (.keep [0, 1, 2, 3, 4] J24), .bl 1, .sq (.keep [0, 1, 4] J1z), .lo 2 [0, 1, 4] J0h, .bl 0, .sq (.keep [0, 1] J0n)] (X (J1 p) (.lp 2 [0, 1, 2, 3, 4, 9] J0Z) ⟨[(0, .ptr 0 0), (1, .ptr 1 0), (2, .p (.i .i64 x2)), (3, .p (.i .u32 s.1)), (4, .p (.i .i64 x4)), (9, .p (.i .i64 s.2))], [.box (List.map AV.p ((J07 (r_i .u32)) b0)), .box (List.map AV.p ((J07 (r_i .u32)) b1))]⟩)
  | .inr o => (J2z p b0) o
def J3A (x4 : Int) (b0 : Vector Int 16) (b1 : Vector Int 16) : Option (((Int × (Vector Int 16)) ⊕ ((Vector Int 16)))) :=
  some (.inl ((IntKind.wrap .i64 (x4 + 1)), b1))
theorem Jdc {x4 : Int} {b0 : Vector Int 16} {b1 : Vector Int 16} {o : ((Int × (Vector Int 16)) ⊕ ((Vector Int 16)))} (h : J3A x4 b0 b1 = some o) :
    rk (J1 p) J0a 0 [.lo 2 [0, 1, 4] J0h, .bl 0, .sq (.keep [0, 1] J0n)] (X (J1 p) J1z ⟨[(0, .ptr 0 0), (1, .ptr 1 0), (4, .p (.i .i64 x4))], [.box (List.map AV.p ((J07 (r_i .u32)) b0)), .box (List.map AV.p ((J07 (r_i .u32)) b1))]⟩) = (J2z p b0) o := by
  unfold J3A at h
  obtain rfl := sj h
  try simp only [↓Da, Ua, J1z, ↓reduceIte, Nat.reduceEqDiff, Nat.reduceAdd, Nat.reduceLT, Nat.reduceMul]
  rfl
def J3B (x2 : Int) (x3 : Int) (x4 : Int) (b0 : Vector Int 16) (b1 : Vector Int 16) : Option (((Int × (Vector Int 16)) ⊕ ((Vector Int 16)))) :=
  Option.bind (inb 16 x2) fun u1 =>
  Option.bind (J5i b1 x2) fun y4 =>
  J3A x4 b0 (J7s b1 x2 x3)
theorem Jdt {x2 : Int} {x3 : Int} {x4 : Int} {b0 : Vector Int 16} {b1 : Vector Int 16} {o : ((Int × (Vector Int 16)) ⊕ ((Vector Int 16)))} (h : J3B x2 x3 x4 b0 b1 = some o) :
    rk (J1 p) J0a 0 [.bl 1, .sq (.keep [0, 1, 4] J1z), .lo 2 [0, 1, 4] J0h, .bl 0, .sq (.keep [0, 1] J0n)] (X (J1 p) J24 ⟨[(0, .ptr 0 0), (1, .ptr 1 0), (2, .p (.i .i64 x2)), (3, .p (.i .u32 x3)), (4, .p (.i .i64 x4))], [.box (List.map AV.p ((J07 (r_i .u32)) b0)), .box (List.map AV.p ((J07 (r_i .u32)) b1))]⟩) = (J2z p b0) o := by
  unfold J3B at h
  obtain ⟨u1, h2, h⟩ := bi h
  have f3 : (0 ≤ (x2 : Int) ∧ (x2 : Int) < ((16 : Nat) : Int)) = True := eq_true (JcC h2)
  obtain ⟨y4, h5, h⟩ := bi h
  have f6 : spl ((J07 (r_i .u32)) b1) (Int.toNat x2 * 1) ((r_i .u32) x3) = some ((J07 (r_i .u32)) (J7s b1 x2 x3)) := by
    have e0 := (Jm7 (v := b1) (J9y .u32) (Jj4 h5) x3)
    exact e0
  try simp only [Nf] at f6
  try simp only [↓Da, Ua, J24, *, ↓reduceIte, Nat.reduceEqDiff, Nat.reduceAdd, Nat.reduceLT, Nat.reduceMul]
  have e0 := Jdc p h
  exact e0
def J0F (x2 : Int) (x4 : Int) (b0 : Vector Int 16) (b1 : Vector Int 16) (x3 : Int) (x9 : Int) : Option (((Int × Int) ⊕ (((Int × (Vector Int 16)) ⊕ ((Vector Int 16)))))) :=
  if (decide (x9 < 4)) then
    if (((J4t .u32 x3 1) : Int) == 1) then
      Option.bind (J8p .u32 x3 1) fun q3 =>
      some (.inl ((J56 .u32 q3 2197175160), (IntKind.wrap .i64 (x9 + 1))))
    else
      Option.bind (J8p .u32 x3 1) fun q5 =>
      some (.inl (q5, (IntKind.wrap .i64 (x9 + 1))))
  else
    Option.map (fun o => .inr o) (J3B x2 x3 x4 b0 b1)
theorem J95 {x2 : Int} {x4 : Int} {b0 : Vector Int 16} {b1 : Vector Int 16} {x3 : Int} {x9 : Int} {o : ((Int × Int) ⊕ (((Int × (Vector Int 16)) ⊕ ((Vector Int 16)))))} (h : J0F x2 x4 b0 b1 x3 x9 = some o) :
    rk (J1 p) J0a 0 [.lo 2 [0, 1, 2, 3, 4, 9] J0Z, .bl 2, .sq (.keep [0, 1, 2, 3, 4] J24), .bl 1, .sq (.keep [0, 1, 4] J1z), .lo 2 [0, 1, 4] J0h, .bl 0, .sq (.keep [0, 1] J0n)] (X (J1 p) J0Z ⟨[(0, .ptr 0 0), (1, .ptr 1 0), (2, .p (.i .i64 x2)), (3, .p (.i .u32 x3)), (4, .p (.i .i64 x4)), (9, .p (.i .i64 x9))], [.box (List.map AV.p ((J07 (r_i .u32)) b0)), .box (List.map AV.p ((J07 (r_i .u32)) b1))]⟩) = (Jdf p x2 x4 b0 b1) o := by
  unfold J0F at h
  rcases Je h with ⟨h1, h⟩ | ⟨h1, h⟩
  · try simp only [↓Da, Ua, J0Z, *, ↓reduceIte, Nat.reduceEqDiff, Nat.reduceAdd, Nat.reduceLT, Nat.reduceMul]
    rcases Je h with ⟨h2, h⟩ | ⟨h2, h⟩
    · have h2n : (((J4t .u32 x3 1) : Int) != 1) = false := by rw [bne, h2]; rfl
      obtain ⟨q3, h4, h⟩ := bi h
      obtain rfl := sj h
      try simp only [↓Da, Ua, J0Z, *, ↓reduceIte, Nat.reduceEqDiff, Nat.reduceAdd, Nat.reduceLT, Nat.reduceMul]
      rfl
    · have h2n : (((J4t .u32 x3 1) : Int) != 1) = true := by rw [bne, h2]; rfl
      obtain ⟨q5, h6, h⟩ := bi h
      obtain rfl := sj h
      try simp only [↓Da, Ua, J0Z, *, ↓reduceIte, Nat.reduceEqDiff, Nat.reduceAdd, Nat.reduceLT, Nat.reduceMul]
      rfl
  · obtain ⟨o', h', rfl⟩ := mi h
    try simp only [↓Da, Ua, J0Z, *, ↓reduceIte, Nat.reduceEqDiff, Nat.reduceAdd, Nat.reduceLT, Nat.reduceMul]
    have e0 := Jdt p h'
    exact e0
def J6t (x2 : Int) (x4 : Int) (b0 : Vector Int 16) (b1 : Vector Int 16) (s : Int × Int) : Option (((Int × (Vector Int 16)) ⊕ ((Vector Int 16)))) :=
  JQ (fun s => J0F x2 x4 b0 b1 s.1 s.2) s
theorem JbZ {x2 : Int} {x4 : Int} {b0 : Vector Int 16} {b1 : Vector Int 16} {s : Int × Int} {o : ((Int × (Vector Int 16)) ⊕ ((Vector Int 16)))} (h : J6t x2 x4 b0 b1 s = some o) :
    rk (J1 p) J0a 0 [.bl 2, .sq (.keep [0, 1, 2, 3, 4] J24), .bl 1, .sq (.keep [0, 1, 4] J1z), .lo 2 [0, 1, 4] J0h, .bl 0, .sq (.keep [0, 1] J0n)] (X (J1 p) (.lp 2 [0, 1, 2, 3, 4, 9] J0Z) ⟨[(0, .ptr 0 0), (1, .ptr 1 0), (2, .p (.i .i64 x2)), (3, .p (.i .u32 s.1)), (4, .p (.i .i64 x4)), (9, .p (.i .i64 s.2))], [.box (List.map AV.p ((J07 (r_i .u32)) b0)), .box (List.map AV.p ((J07 (r_i .u32)) b1))]⟩) = (J2z p b0) o := by
  have h0 : JQ (fun s => J0F x2 x4 b0 b1 s.1 s.2) s = some o := h
  exact J3l (P := fun (s : Int × Int) (o : ((Int × (Vector Int 16)) ⊕ ((Vector Int 16)))) => rk (J1 p) J0a 0 [.bl 2, .sq (.keep [0, 1, 2, 3, 4] J24), .bl 1, .sq (.keep [0, 1, 4] J1z), .lo 2 [0, 1, 4] J0h, .bl 0, .sq (.keep [0, 1] J0n)] (X (J1 p) (.lp 2 [0, 1, 2, 3, 4, 9] J0Z) ⟨[(0, .ptr 0 0), (1, .ptr 1 0), (2, .p (.i .i64 x2)), (3, .p (.i .u32 s.1)), (4, .p (.i .i64 x4)), (9, .p (.i .i64 s.2))], [.box (List.map AV.p ((J07 (r_i .u32)) b0)), .box (List.map AV.p ((J07 (r_i .u32)) b1))]⟩) = (J2z p b0) o) (fun s r hs => by rw [J4p]; exact J95 p hs) (fun s s1 r hs ih => by rw [J4p]; exact (J95 p hs).trans ih) h0
def J3y (b0 : Vector Int 16) (b1 : Vector Int 16) : Option ((Vector Int 16)) :=
  some b1
theorem Jdz {b0 : Vector Int 16} {b1 : Vector Int 16} {o : (Vector Int 16)} (h : J3y b0 b1 = some o) :
    rk (J1 p) J0a 0 [] (X (J1 p) J0n ⟨[(0, .ptr 0 0), (1, .ptr 1 0)], [.box (List.map AV.p ((J07 (r_i .u32)) b0)), .box (List.map AV.p ((J07 (r_i .u32)) b1))]⟩) = J3k o := by
  unfold J3y at h
  obtain rfl := sj h
  try simp only [↓Da, Ua, J0n, J5I, JeL, ↓reduceIte, Nat.reduceEqDiff, Nat.reduceAdd, Nat.reduceLT, Nat.reduceMul]
  rfl
def J0Y (b0 : Vector Int 16) (x4 : Int) (b1 : Vector Int 16) : Option (((Int × (Vector Int 16)) ⊕ ((Vector Int 16)))) :=
  if (decide (x4 < 16)) then
    J6t x4 x4 b0 b1 ((IntKind.wrap .u32 x4), 0)
  else
    Option.map (fun o => .inr o) (J3y b0 b1)
theorem J8C {b0 : Vector Int 16} {x4 : Int} {b1 : Vector Int 16} {o : ((Int × (Vector Int 16)) ⊕ ((Vector Int 16)))} (h : J0Y b0 x4 b1 = some o) :
    rk (J1 p) J0a 0 [.lo 2 [0, 1, 4] J0h, .bl 0, .sq (.keep [0, 1] J0n)] (X (J1 p) J0h ⟨[(0, .ptr 0 0), (1, .ptr 1 0), (4, .p (.i .i64 x4))], [.box (List.map AV.p ((J07 (r_i .u32)) b0)), .box (List.map AV.p ((J07 (r_i .u32)) b1))]⟩) = (J2z p b0) o := by
  unfold J0Y at h
  rcases Je h with ⟨h1, h⟩ | ⟨h1, h⟩
  · try simp only [↓Da, Ua, J0h, *, ↓reduceIte, Nat.reduceEqDiff, Nat.reduceAdd, Nat.reduceLT, Nat.reduceMul]
    have e0 := JbZ p h
    exact e0
  · obtain ⟨o', h', rfl⟩ := mi h
    try simp only [↓Da, Ua, J0h, *, ↓reduceIte, Nat.reduceEqDiff, Nat.reduceAdd, Nat.reduceLT, Nat.reduceMul]
    have e0 := Jdz p h'
    exact e0
def J8I (b0 : Vector Int 16) (s : Int × (Vector Int 16)) : Option ((Vector Int 16)) :=
  JQ (fun s => J0Y b0 s.1 s.2) s
theorem JbV {b0 : Vector Int 16} {s : Int × (Vector Int 16)} {o : (Vector Int 16)} (h : J8I b0 s = some o) :
    rk (J1 p) J0a 0 [.bl 0, .sq (.keep [0, 1] J0n)] (X (J1 p) (.lp 2 [0, 1, 4] J0h) ⟨[(0, .ptr 0 0), (1, .ptr 1 0), (4, .p (.i .i64 s.1))], [.box (List.map AV.p ((J07 (r_i .u32)) b0)), .box (List.map AV.p ((J07 (r_i .u32)) s.2))]⟩) = J3k o := by
  have h0 : JQ (fun s => J0Y b0 s.1 s.2) s = some o := h
  exact J3l (P := fun (s : Int × (Vector Int 16)) (o : (Vector Int 16)) => rk (J1 p) J0a 0 [.bl 0, .sq (.keep [0, 1] J0n)] (X (J1 p) (.lp 2 [0, 1, 4] J0h) ⟨[(0, .ptr 0 0), (1, .ptr 1 0), (4, .p (.i .i64 s.1))], [.box (List.map AV.p ((J07 (r_i .u32)) b0)), .box (List.map AV.p ((J07 (r_i .u32)) s.2))]⟩) = J3k o) (fun s r hs => by rw [J4p]; exact J8C p hs) (fun s s1 r hs ih => by rw [J4p]; exact (J8C p hs).trans ih) h0
def J2t  : Option ((Vector Int 16)) :=
  J8I (Vector.replicate 16 0) (0, (Vector.replicate 16 0))
theorem Jc4  {o : (Vector Int 16)} (h : J2t = some o) :
    rk (J1 p) J0a 0 [] (X (J1 p) J4l ⟨[], []⟩) = J3k o := by
  unfold J2t at h
  try simp only [↓Da, Ua, J4l, J5I, ↓reduceIte, Nat.reduceEqDiff, Nat.reduceAdd, Nat.reduceLT, Nat.reduceMul]
  have e0 := JbV p h
  exact e0
theorem Jex  {o : (Vector Int 16)} (h : J2t = some o) : AF (J1 p) J3d [] [] = J3k o :=
  (J14 (J1 p) (JeT p) rfl).trans (Jc4 p h)
theorem JeC  {o : (Vector Int 16)} (h : J2t = some o) : ∀ ws new st, (Jx (AF (J1 p)) J3d ([], ws) 0 new).run st = some ⟨.data ((J07 (r_i .u32)) o), ws⟩ := JW rfl (Jex p h) rfl
def Jcu  (r : Bool) : Option Res := some (.p (.b r), [])
def J39 (x0 : Int) (x1 : Ja) : Option (Bool) :=
  if (decide (x0 ≥ 0)) then
    some (decide (x0 < x1.LSN))
  else
    some false
theorem JeW {x0 : Int} {x1 : Ja} {o : Bool} (h : J39 x0 x1 = some o) :
    rk (J1 p) J4U 0 [] (X (J1 p) J4W ⟨[(0, .p (.i .i64 x0)), (1, .data (J3 x1))], []⟩) = Jcu o := by
  unfold J39 at h
  rcases Je h with ⟨h1, h⟩ | ⟨h1, h⟩
  · obtain rfl := sj h
    try simp only [↓Da, Ua, J4W, J6, Jo, Jz, JcM, *, ↓reduceIte, Nat.reduceEqDiff, Nat.reduceAdd, Nat.reduceLT, Nat.reduceMul]
    rfl
  · obtain rfl := sj h
    try simp only [↓Da, Ua, J4W, J6, Jo, Jz, JcM, *, ↓reduceIte, Nat.reduceEqDiff, Nat.reduceAdd, Nat.reduceLT, Nat.reduceMul]
    rfl
theorem JiE {x0 : Int} {x1 : Ja} {o : Bool} (h : J39 x0 x1 = some o) : AF (J1 p) J3j [.p (.i .i64 x0), .data (J3 x1)] [] = Jcu o :=
  (J14 (J1 p) (JiR p) rfl).trans (JeW p h)
theorem J9n {x0 : Int} {x1 : Ja} {o : Bool} (h : J39 x0 x1 = some o) : ∀ ws new st, (Jx (AF (J1 p)) J3j ([.p (.i .i64 x0), .data (J3 x1)], ws) 0 new).run st = some ⟨.p (.b o), ws⟩ := JW rfl (JiE p h) rfl
def JdW (r : Unit) : Option Res := some (.agg [.p (.b false), .p (.b false), .p (.b false), .p (.b false), .p (.b false), .p .nf, .p .nf, .p (.b true), .p (.b false), .p (.b true), .p (.b false), .p (.b false), .fn JC [] [], .fn J0y [] [], .p (.b true), .p (.b true), .p (.b true), .p (.b true), .p (.b false), .fn J1m [] [], .fn J0y [] [], .p (.b true), .p (.b true), .p (.b false), .p (.b false), .p (.b false), .fn JC [] [], .fn J0j [] [], .p (.b true), .p (.b true), .p (.b false), .p (.b false), .p (.b false), .fn JC [] [], .fn J0j [] [], .p (.b true), .p (.b true), .p (.b false), .p (.b false), .p (.b false), .fn JC [] [], .fn J0j [] [], .p (.b false), .p (.b false), .p (.b false), .p (.b false), .p (.b true), .fn JC [] [], .fn J0j [] [], .p (.b false), .p (.b false), .p (.b false), .p (.b true), .p (.b false), .fn JC [] [], .fn J1k [] [], .p (.b false), .p (.b false), .p (.b false), .p (.b false), .p (.b true), .fn JC [] [], .fn J0j [] []], [])
def J5n  : Option (Unit) :=
  some ()
theorem Jfs  {o : Unit} (h : J5n = some o) :
    rk (J1 p) J5x 0 [] (X (J1 p) J6F ⟨[], []⟩) = JdW o := by
  unfold J5n at h
  obtain rfl := sj h
  try simp only [↓Da, Ua, J6F, Jk7, ↓reduceIte, Nat.reduceEqDiff, Nat.reduceAdd, Nat.reduceLT, Nat.reduceMul]
  rfl
theorem JjX  {o : Unit} (h : J5n = some o) : AF (J1 p) J4v [] [] = JdW o :=
  (J14 (J1 p) (Jk4 p) rfl).trans (Jfs p h)
theorem Jkc {o : Unit} (h : J5n = some o) : ∀ ws new st, (Jx (AF (J1 p)) J4v ([], ws) 0 new).run st = some ⟨.agg [.p (.b false), .p (.b false), .p (.b false), .p (.b false), .p (.b false), .p .nf, .p .nf, .p (.b true), .p (.b false), .p (.b true), .p (.b false), .p (.b false), .fn JC [] [], .fn J0y [] [], .p (.b true), .p (.b true), .p (.b true), .p (.b true), .p (.b false), .fn J1m [] [], .fn J0y [] [], .p (.b true), .p (.b true), .p (.b false), .p (.b false), .p (.b false), .fn JC [] [], .fn J0j [] [], .p (.b true), .p (.b true), .p (.b false), .p (.b false), .p (.b false), .fn JC [] [], .fn J0j [] [], .p (.b true), .p (.b true), .p (.b false), .p (.b false), .p (.b false), .fn JC [] [], .fn J0j [] [], .p (.b false), .p (.b false), .p (.b false), .p (.b false), .p (.b true), .fn JC [] [], .fn J0j [] [], .p (.b false), .p (.b false), .p (.b false), .p (.b true), .p (.b false), .fn JC [] [], .fn J1k [] [], .p (.b false), .p (.b false), .p (.b false), .p (.b false), .p (.b true), .fn JC [] [], .fn J0j [] []], ws⟩ :=
  JpC rfl (JjX p h) (fun _ => rfl)
def J1A (x0 : List Jq) : Option (List Jq) := if (2 * x0.length + 512) * 24 ≤ 281474976710656 then some x0 else none
theorem J9a {x0 : List Jq} {o : List Jq} (h : J1A x0 = some o) : AF (J1 p) J19 [.p (.sl 3 (List.map Jj x0))] [] = some (.slr 0 0 o.length, [.arr true 3 (List.map Jj o)]) := by
  unfold J1A at h
  split at h
  · rename_i h2
    injection h with h; subst h
    rw [Jrb _ (J8H p)]
    cases x0 with
    | nil => simp [J1B, JaE, Jds, J8U.af]
    | cons a r =>
      simp at h2
      simp [J1B, JaE, Jds, J8U.af, h2]
  · cases h
def J1N (x0 : J5) : Option (Bool) :=
  if (decide (((List.length x0.Data : Nat) : Int) ≤ 12)) then
    if x0.Set then
      some true
    else
      some (x0.Data == [])
  else
    some false
def JdV  (r : Int) : Option Res := some (.p (.i .i64 r), [])
def JM (x0 : List UInt8) (x1 : Int) (x2 : Int) : Option (Int) :=
  Option.bind (J0o x0 x1 x2) fun r1 =>
  some r1.1
theorem JfP {x0 : List UInt8} {x1 : Int} {x2 : Int} {o : Int} (h : JM x0 x1 x2 = some o) :
    rk (J1 p) J5m 0 [] (X (J1 p) J6G ⟨[(0, .p (.s x0)), (1, .p (.i .i64 x1)), (2, .p (.i .i64 x2))], []⟩) = JdV o := by
  unfold JM at h
  obtain ⟨r1, h2, h⟩ := bi h
  have f3 := Jmj p h2
  try simp only [Nf] at f3
  obtain rfl := sj h
  try simp only [↓Da, Ua, J6G, JkD, *, ↓reduceIte, Nat.reduceEqDiff, Nat.reduceAdd, Nat.reduceLT, Nat.reduceMul]
  rfl
theorem Jkg {x0 : List UInt8} {x1 : Int} {x2 : Int} {o : Int} (h : JM x0 x1 x2 = some o) : AF (J1 p) J36 [.p (.s x0), .p (.i .i64 x1), .p (.i .i64 x2)] [] = JdV o :=
  (J14 (J1 p) (Jkl p) rfl).trans (JfP p h)
theorem J8l {x0 : List UInt8} {x1 : Int} {x2 : Int} {o : Int} (h : JM x0 x1 x2 = some o) : ∀ ws new st, (Jx (AF (J1 p)) J36 ([.p (.s x0), .p (.i .i64 x1), .p (.i .i64 x2)], ws) 0 new).run st = some ⟨.p (.i .i64 o), ws⟩ := JW rfl (Jkg p h) rfl
def J6J  (r : T_api_Page × Bool) : Option Res := some (.tup [.data (J4 r.1), .p (.b r.2)], [])
def Jk1 (x0 : List UInt8) (b0 : T_api_Page) (o : (Int × T_api_Page) ⊕ (T_api_Page × Bool)) : Option Res := match o with
  | .inl s => rk (J1 p) J2X 0 [.bl 0, .sq (.keep [2, 4] J4A)] (X (J1 p) (.lp 2 [0, 2, 4, 13] J1Q) ⟨[(0, .p (.s x0)), (2, .ptr 0 0), (4, .ptr 1 0), (13, .p (.i .i64 s.1))], [.box (List.map AV.p (J4 b0)), .box (List.map AV.p (J4 s.2))]⟩)
  | .inr o => J6J o
def J4y (b0 : T_api_Page) (b1 : T_api_Page) : Option (T_api_Page × Bool) :=
  some (b1, true)
theorem Jks {b0 : T_api_Page} {b1 : T_api_Page} {o : T_api_Page × Bool} (h : J4y b0 b1 = some o) :
    rk (J1 p) J2X 0 [] (X (J1 p) J4A ⟨[(2, .ptr 0 0), (4, .ptr 1 0)], [.box (List.map AV.p (J4 b0)), .box (List.map AV.p (J4 b1))]⟩) = J6J o := by
  unfold J4y at h
  obtain rfl := sj h
  try simp only [↓Da, Ua, J4A, J6, J2, Jf, Jgq, ↓reduceIte, Nat.reduceEqDiff, Nat.reduceAdd, Nat.reduceLT, Nat.reduceMul]
  rfl
def J0A (x0 : List UInt8) (b0 : T_api_Page) (x13 : Int) (b1 : T_api_Page) : Option (((Int × T_api_Page) ⊕ (T_api_Page × Bool))) :=
  if (decide (x13 < 16)) then
    Option.bind (JM x0 (IntKind.wrap .i64 (12 + (IntKind.wrap .i64 (x13 * 13)))) 1) fun r2 =>
    if ((r2 : Int) == 255) then
      some (.inl ((IntKind.wrap .i64 (x13 + 1)), b1))
    else
      if (decide (r2 > 12)) then
        some (.inr ((⟨0, 0, (Vector.replicate 16 (⟨false, []⟩ : J5))⟩ : T_api_Page), false))
      else
        Option.bind (J22 x0 (some (IntKind.wrap .i64 ((IntKind.wrap .i64 (12 + (IntKind.wrap .i64 (x13 * 13)))) + 1))) (some (IntKind.wrap .i64 ((IntKind.wrap .i64 ((IntKind.wrap .i64 (12 + (IntKind.wrap .i64 (x13 * 13)))) + 1)) + r2)))) fun m7 =>
        Option.bind (inb 16 x13) fun u10 =>
        Option.bind (J5i b1.Cells x13) fun y13 =>
        some (.inl ((IntKind.wrap .i64 (x13 + 1)), (⟨b1.ID, b1.LSN, (J7s b1.Cells x13 (⟨true, m7⟩ : J5))⟩ : T_api_Page)))
  else
    Option.map (fun o => .inr o) (J4y b0 b1)
theorem JdM {x0 : List UInt8} {b0 : T_api_Page} {x13 : Int} {b1 : T_api_Page} {o : ((Int × T_api_Page) ⊕ (T_api_Page × Bool))} (h : J0A x0 b0 x13 b1 = some o) :
    rk (J1 p) J2X 0 [.lo 2 [0, 2, 4, 13] J1Q, .bl 0, .sq (.keep [2, 4] J4A)] (X (J1 p) J1Q ⟨[(0, .p (.s x0)), (2, .ptr 0 0), (4, .ptr 1 0), (13, .p (.i .i64 x13))], [.box (List.map AV.p (J4 b0)), .box (List.map AV.p (J4 b1))]⟩) = (Jk1 p x0 b0) o := by
  unfold J0A at h
  rcases Je h with ⟨h1, h⟩ | ⟨h1, h⟩
  · obtain ⟨r2, h3, h⟩ := bi h
    have f4 := J8l p h3
    try simp only [Nf] at f4
    try simp only [↓Da, Ua, J1Q, J6, J2, Jf, *, ↓reduceIte, Nat.reduceEqDiff, Nat.reduceAdd, Nat.reduceLT, Nat.reduceMul]
    rcases Je h with ⟨h5, h⟩ | ⟨h5, h⟩
    · have h5n : ((r2 : Int) != 255) = false := by rw [bne, h5]; rfl
      obtain rfl := sj h
      try simp only [↓Da, Ua, J1Q, J6, J2, Jf, *, ↓reduceIte, Nat.reduceEqDiff, Nat.reduceAdd, Nat.reduceLT, Nat.reduceMul]
      rfl
    · have h5n : ((r2 : Int) != 255) = true := by rw [bne, h5]; rfl
      try simp only [↓Da, Ua, J1Q, J6, J2, Jf, *, ↓reduceIte, Nat.reduceEqDiff, Nat.reduceAdd, Nat.reduceLT, Nat.reduceMul]
      rcases Je h with ⟨h6, h⟩ | ⟨h6, h⟩
      · obtain rfl := sj h
        try simp only [↓Da, Ua, J1Q, J6, J2, Jf, Jgq, *, ↓reduceIte, Nat.reduceEqDiff, Nat.reduceAdd, Nat.reduceLT, Nat.reduceMul]
        rfl
      · obtain ⟨m7, h8, h⟩ := bi h
        have f9 : J5a (.p (.s x0)) (some (.p (.i .i64 (IntKind.wrap .i64 ((IntKind.wrap .i64 (12 + (IntKind.wrap .i64 (x13 * 13)))) + 1))))) (some (.p (.i .i64 (IntKind.wrap .i64 ((IntKind.wrap .i64 ((IntKind.wrap .i64 (12 + (IntKind.wrap .i64 (x13 * 13)))) + 1)) + r2))))) = some (.p (.s m7)) := J9O (k := .i64) (lo := (some (IntKind.wrap .i64 ((IntKind.wrap .i64 (12 + (IntKind.wrap .i64 (x13 * 13)))) + 1)))) (hi := (some (IntKind.wrap .i64 ((IntKind.wrap .i64 ((IntKind.wrap .i64 (12 + (IntKind.wrap .i64 (x13 * 13)))) + 1)) + r2)))) h8
        try simp only [Nf] at f9
        obtain ⟨u10, h11, h⟩ := bi h
        have f12 : (0 ≤ (x13 : Int) ∧ (x13 : Int) < ((16 : Nat) : Int)) = True := eq_true (JcC h11)
        obtain ⟨y13, h14, h⟩ := bi h
        have f15 : spl (J4 b1) (2 + Int.toNat x13 * 2) (Jd (⟨true, m7⟩ : J5)) = some (J4 (⟨b1.ID, b1.LSN, (J7s b1.Cells x13 (⟨true, m7⟩ : J5))⟩ : T_api_Page)) := by
          have e0 := (Jn6 (J7q b1) (Jm7 (v := b1.Cells) JU (Jj4 h14) (⟨true, m7⟩ : J5)) (J7d b1 _))
          exact e0
        try simp only [Nf] at f15
        obtain rfl := sj h
        try simp only [↓Da, Ua, J1Q, J6, J2, Jf, *, ↓reduceIte, Nat.reduceEqDiff, Nat.reduceAdd, Nat.reduceLT, Nat.reduceMul]
        rfl
  · obtain ⟨o', h', rfl⟩ := mi h
    try simp only [↓Da, Ua, J1Q, J6, J2, Jf, *, ↓reduceIte, Nat.reduceEqDiff, Nat.reduceAdd, Nat.reduceLT, Nat.reduceMul]
    have e0 := Jks p h'
    exact e0
def J8a (x0 : List UInt8) (b0 : T_api_Page) (s : Int × T_api_Page) : Option (T_api_Page × Bool) :=
  JQ (fun s => J0A x0 b0 s.1 s.2) s
theorem Jip {x0 : List UInt8} {b0 : T_api_Page} {s : Int × T_api_Page} {o : T_api_Page × Bool} (h : J8a x0 b0 s = some o) :
    rk (J1 p) J2X 0 [.bl 0, .sq (.keep [2, 4] J4A)] (X (J1 p) (.lp 2 [0, 2, 4, 13] J1Q) ⟨[(0, .p (.s x0)), (2, .ptr 0 0), (4, .ptr 1 0), (13, .p (.i .i64 s.1))], [.box (List.map AV.p (J4 b0)), .box (List.map AV.p (J4 s.2))]⟩) = J6J o := by
  have h0 : JQ (fun s => J0A x0 b0 s.1 s.2) s = some o := h
  exact J3l (P := fun (s : Int × T_api_Page) (o : T_api_Page × Bool) => rk (J1 p) J2X 0 [.bl 0, .sq (.keep [2, 4] J4A)] (X (J1 p) (.lp 2 [0, 2, 4, 13] J1Q) ⟨[(0, .p (.s x0)), (2, .ptr 0 0), (4, .ptr 1 0), (13, .p (.i .i64 s.1))], [.box (List.map AV.p (J4 b0)), .box (List.map AV.p (J4 s.2))]⟩) = J6J o) (fun s r hs => by rw [J4p]; exact JdM p hs) (fun s s1 r hs ih => by rw [J4p]; exact (JdM p hs).trans ih) h0
def J2Y (x0 : List UInt8) : Option (T_api_Page × Bool) :=
  Option.bind (JM x0 8 4) fun r1 =>
  Option.bind (JM x0 0 8) fun r4 =>
  J8a x0 (⟨0, 0, (Vector.replicate 16 (⟨false, []⟩ : J5))⟩ : T_api_Page) (0, (⟨r1, r4, (Vector.replicate 16 (⟨false, []⟩ : J5))⟩ : T_api_Page))
theorem JhQ {x0 : List UInt8} {o : T_api_Page × Bool} (h : J2Y x0 = some o) :
    rk (J1 p) J2X 0 [] (X (J1 p) J7Z ⟨[(0, .p (.s x0))], []⟩) = J6J o := by
  unfold J2Y at h
  obtain ⟨r1, h2, h⟩ := bi h
  have f3 := J8l p h2
  try simp only [Nf] at f3
  obtain ⟨r4, h5, h⟩ := bi h
  have f6 := J8l p h5
  try simp only [Nf] at f6
  try simp only [↓Da, Ua, J7Z, J6, J2, Jf, *, ↓reduceIte, Nat.reduceEqDiff, Nat.reduceAdd, Nat.reduceLT, Nat.reduceMul]
  have e0 := Jip p h
  exact e0
theorem Jml {x0 : List UInt8} {o : T_api_Page × Bool} (h : J2Y x0 = some o) : AF (J1 p) J6I [.p (.s x0)] [] = J6J o :=
  (J14 (J1 p) (Jmr p) rfl).trans (JhQ p h)
theorem Jmn {x0 : List UInt8} {o : T_api_Page × Bool} (h : J2Y x0 = some o) : ∀ ws new st, (Jx (AF (J1 p)) J6I ([.p (.s x0)], ws) 0 new).run st = some ⟨.tup [.data (J4 o.1), .p (.b o.2)], ws⟩ := JW rfl (Jml p h) rfl
def Jb2  (r : Bool) : Option Res := some (.p (.b r), [])
def J26 (x0 : Ja) : Option (Bool) :=
  some true
theorem JcT {x0 : Ja} {o : Bool} (h : J26 x0 = some o) :
    rk (J1 p) J44 0 [] (X (J1 p) J5e ⟨[(0, .data (J3 x0))], []⟩) = Jb2 o := by
  unfold J26 at h
  obtain rfl := sj h
  try simp only [↓Da, Ua, J5e, J6, Jo, Jz, JgJ, ↓reduceIte, Nat.reduceEqDiff, Nat.reduceAdd, Nat.reduceLT, Nat.reduceMul]
  rfl
theorem Jh6 {x0 : Ja} {o : Bool} (h : J26 x0 = some o) : AF (J1 p) JC [.data (J3 x0)] [] = Jb2 o :=
  (J14 (J1 p) (Jhi p) rfl).trans (JcT p h)
theorem J6l {x0 : Ja} {o : Bool} (h : J26 x0 = some o) : ∀ ws new st, (Jx (AF (J1 p)) JC ([.data (J3 x0)], ws) 0 new).run st = some ⟨.p (.b o), ws⟩ := JW rfl (Jh6 p h) rfl
def JeD  (r : Bool) : Option Res := some (.p (.b r), [])
def J67 (x0 : Jp) : Option (Bool) :=
  some (x0 == (⟨0, 0, (⟨false, ([] : List UInt8)⟩ : J5), (⟨false, ([] : List UInt8)⟩ : J5)⟩ : Jp))
theorem Jhj {x0 : Jp} {o : Bool} (h : J67 x0 = some o) :
    rk (J1 p) J69 0 [] (X (J1 p) J7t ⟨[(0, .data (J9 x0))], []⟩) = JeD o := by
  unfold J67 at h
  obtain rfl := sj h
  try simp only [↓Da, Ua, J7t, J6, Jo, J4Y, JkS, ↓reduceIte, Nat.reduceEqDiff, Nat.reduceAdd, Nat.reduceLT, Nat.reduceMul]
  rfl
theorem Jm1 {x0 : Jp} {o : Bool} (h : J67 x0 = some o) : AF (J1 p) J0j [.data (J9 x0)] [] = JeD o :=
  (J14 (J1 p) (JlJ p) rfl).trans (Jhj p h)
theorem Jey {x0 : Jp} {o : Bool} (h : J67 x0 = some o) : ∀ ws new st, (Jx (AF (J1 p)) J0j ([.data (J9 x0)], ws) 0 new).run st = some ⟨.p (.b o), ws⟩ := JW rfl (Jm1 p h) rfl
def Jb9  (r : Bool) : Option Res := some (.p (.b r), [])
def J59 (x0 : Ja) : Option (Bool) :=
  if (decide (x0.Ref ≥ 1)) then
    some (decide (x0.Ref ≤ x0.PrevTx))
  else
    some false
theorem Jdb {x0 : Ja} {o : Bool} (h : J59 x0 = some o) :
    rk (J1 p) J4c 0 [] (X (J1 p) J48 ⟨[(0, .data (J3 x0))], []⟩) = Jb9 o := by
  unfold J59 at h
  rcases Je h with ⟨h1, h⟩ | ⟨h1, h⟩
  · obtain rfl := sj h
    try simp only [↓Da, Ua, J48, J6, Jo, Jz, Jbo, *, ↓reduceIte, Nat.reduceEqDiff, Nat.reduceAdd, Nat.reduceLT, Nat.reduceMul]
    rfl
  · obtain rfl := sj h
    try simp only [↓Da, Ua, J48, J6, Jo, Jz, Jbo, *, ↓reduceIte, Nat.reduceEqDiff, Nat.reduceAdd, Nat.reduceLT, Nat.reduceMul]
    rfl
theorem Jh9 {x0 : Ja} {o : Bool} (h : J59 x0 = some o) : AF (J1 p) J1m [.data (J3 x0)] [] = Jb9 o :=
  (J14 (J1 p) (Jhc p) rfl).trans (Jdb p h)
theorem JgC {x0 : Ja} {o : Bool} (h : J59 x0 = some o) : ∀ ws new st, (Jx (AF (J1 p)) J1m ([.data (J3 x0)], ws) 0 new).run st = some ⟨.p (.b o), ws⟩ := JW rfl (Jh9 p h) rfl
def Jb1  (r : Bool) : Option Res := some (.p (.b r), [])
def J43 (x0 : Jp) : Option (Bool) :=
  if (x0 == (⟨x0.Page, 0, (⟨false, ([] : List UInt8)⟩ : J5), (⟨false, ([] : List UInt8)⟩ : J5)⟩ : Jp)) then
    if (decide (x0.Page ≥ 0)) then
      some (decide (x0.Page < 64))
    else
      some false
  else
    some false
theorem Jd7 {x0 : Jp} {o : Bool} (h : J43 x0 = some o) :
    rk (J1 p) J45 0 [] (X (J1 p) J27 ⟨[(0, .data (J9 x0))], []⟩) = Jb1 o := by
  unfold J43 at h
  try simp only [↓Da, Ua, J27, J6, Jo, J4Y, ↓reduceIte, Nat.reduceEqDiff, Nat.reduceAdd, Nat.reduceLT, Nat.reduceMul]
  rcases Je h with ⟨h2, h⟩ | ⟨h2, h⟩
  · try simp only [↓Da, Ua, J27, J6, Jo, J4Y, *, ↓reduceIte, Nat.reduceEqDiff, Nat.reduceAdd, Nat.reduceLT, Nat.reduceMul]
    rcases Je h with ⟨h3, h⟩ | ⟨h3, h⟩
    · obtain rfl := sj h
      try simp only [↓Da, Ua, J27, J6, Jo, J4Y, J8t, *, ↓reduceIte, Nat.reduceEqDiff, Nat.reduceAdd, Nat.reduceLT, Nat.reduceMul]
      rfl
    · obtain rfl := sj h
      try simp only [↓Da, Ua, J27, J6, Jo, J4Y, J8t, *, ↓reduceIte, Nat.reduceEqDiff, Nat.reduceAdd, Nat.reduceLT, Nat.reduceMul]
      rfl
  · obtain rfl := sj h
    try simp only [↓Da, Ua, J27, J6, Jo, J4Y, J8t, *, ↓reduceIte, Nat.reduceEqDiff, Nat.reduceAdd, Nat.reduceLT, Nat.reduceMul]
    rfl
theorem Jhk {x0 : Jp} {o : Bool} (h : J43 x0 = some o) : AF (J1 p) J1k [.data (J9 x0)] [] = Jb1 o :=
  (J14 (J1 p) (JgQ p) rfl).trans (Jd7 p h)
theorem Jgu {x0 : Jp} {o : Bool} (h : J43 x0 = some o) : ∀ ws new st, (Jx (AF (J1 p)) J1k ([.data (J9 x0)], ws) 0 new).run st = some ⟨.p (.b o), ws⟩ := JW rfl (Jhk p h) rfl
def JcI  (r : Bool) : Option Res := some (.p (.b r), [])
def J6f (x0 : Int) : Option (Bool) :=
  if (decide (x0 ≥ 0)) then
    some (decide (x0 < 64))
  else
    some false
theorem JeI {x0 : Int} {o : Bool} (h : J6f x0 = some o) :
    rk (J1 p) J52 0 [] (X (J1 p) J51 ⟨[(0, .p (.i .i64 x0))], []⟩) = JcI o := by
  unfold J6f at h
  rcases Je h with ⟨h1, h⟩ | ⟨h1, h⟩
  · obtain rfl := sj h
    try simp only [↓Da, Ua, J51, Jcs, *, ↓reduceIte, Nat.reduceEqDiff, Nat.reduceAdd, Nat.reduceLT, Nat.reduceMul]
    rfl
  · obtain rfl := sj h
    try simp only [↓Da, Ua, J51, Jcs, *, ↓reduceIte, Nat.reduceEqDiff, Nat.reduceAdd, Nat.reduceLT, Nat.reduceMul]
    rfl
theorem Jjc {x0 : Int} {o : Bool} (h : J6f x0 = some o) : AF (J1 p) J4V [.p (.i .i64 x0)] [] = JcI o :=
  (J14 (J1 p) (JiT p) rfl).trans (JeI p h)
theorem Jj5 {x0 : Int} {o : Bool} (h : J6f x0 = some o) : ∀ ws new st, (Jx (AF (J1 p)) J4V ([.p (.i .i64 x0)], ws) 0 new).run st = some ⟨.p (.b o), ws⟩ := JW rfl (Jjc p h) rfl
def J9P  (r : Bool) : Option Res := some (.p (.b r), [])
def J3e (x0 : J5) : Option (Bool) :=
  if (decide (((List.length x0.Data : Nat) : Int) ≤ 12)) then
    if x0.Set then
      some true
    else
      some (x0.Data == [])
  else
    some false
theorem Jc8 {x0 : J5} {o : Bool} (h : J3e x0 = some o) :
    rk (J1 p) J3b 0 [] (X (J1 p) J23 ⟨[(0, .data (Jd x0))], []⟩) = J9P o := by
  unfold J3e at h
  rcases Je h with ⟨h1, h⟩ | ⟨h1, h⟩
  · try simp only [↓Da, Ua, J23, J6, *, ↓reduceIte, Nat.reduceEqDiff, Nat.reduceAdd, Nat.reduceLT, Nat.reduceMul]
    rcases Je h with ⟨h2, h⟩ | ⟨h2, h⟩
    · obtain rfl := sj h
      try simp only [↓Da, Ua, J23, J6, J7r, *, ↓reduceIte, Nat.reduceEqDiff, Nat.reduceAdd, Nat.reduceLT, Nat.reduceMul]
      rfl
    · obtain rfl := sj h
      try simp only [↓Da, Ua, J23, J6, J7r, *, ↓reduceIte, Nat.reduceEqDiff, Nat.reduceAdd, Nat.reduceLT, Nat.reduceMul]
      rfl
  · obtain rfl := sj h
    try simp only [↓Da, Ua, J23, J6, J7r, *, ↓reduceIte, Nat.reduceEqDiff, Nat.reduceAdd, Nat.reduceLT, Nat.reduceMul]
    rfl
theorem JeY {x0 : J5} {o : Bool} (h : J3e x0 = some o) : AF (J1 p) J2r [.data (Jd x0)] [] = J9P o :=
  (J14 (J1 p) (JeP p) rfl).trans (Jc8 p h)
theorem J9M {x0 : J5} {o : Bool} (h : J3e x0 = some o) : ∀ ws new st, (Jx (AF (J1 p)) J2r ([.data (Jd x0)], ws) 0 new).run st = some ⟨.p (.b o), ws⟩ := JW rfl (JeY p h) rfl
def J71 (b0 : T_pagemenddraw_Codes) (x1 : List UInt8) : Option ((List UInt8) × T_pagemenddraw_Codes) :=
  if ((((List.length x1 : Nat) : Int) : Int) == 0) then
    Option.bind (JR b0 256) fun r2 =>
    some ((toStr ([(IntKind.wrap .u8 r2.1)] : List Int)), r2.2)
  else
    Option.bind (JR b0 ((List.length x1 : Nat) : Int)) fun r6 =>
    Option.bind (JR r6.2 4) fun r9 =>
    if ((r9.1 : Int) == 0) then
      Option.bind (J22 x1 none (some r6.1)) fun m13 =>
      Option.bind (J22 x1 (some (IntKind.wrap .i64 (r6.1 + 1))) none) fun m16 =>
      Option.bind (J37 m13 m16) fun s19 =>
      some (s19, r9.2)
    else
      if ((r9.1 : Int) == 1) then
        Option.bind (JR r9.2 256) fun r22 =>
        Option.bind (J37 x1 (toStr ([(IntKind.wrap .u8 r22.1)] : List Int))) fun s26 =>
        some (s26, r22.2)
      else
        Option.bind (J22 x1 none (some r6.1)) fun m28 =>
        Option.bind (Jbq x1 r6.1) fun c31 =>
        Option.bind (JR r9.2 255) fun r33 =>
        Option.bind (J37 m28 (toStr ([(J56 .u8 c31 (IntKind.wrap .u8 (IntKind.wrap .i64 (1 + r33.1))))] : List Int))) fun s37 =>
        Option.bind (J22 x1 (some (IntKind.wrap .i64 (r6.1 + 1))) none) fun m39 =>
        Option.bind (J37 s37 m39) fun s42 =>
        some (s42, r33.2)
end
end Go.Am
end
section
namespace Go.Am
set_option maxRecDepth 8000
set_option maxHeartbeats 4000000
set_option linter.unusedSimpArgs false
set_option linter.unusedVariables false
noncomputable section
variable (p : FuncId → Option (List AV → List Blk → Option Res))
def J2K  (r : T_api_Page × T_pagemenddraw_Codes) : Option Res := some (.data (J4 r.1), [.box (List.map AV.p (J0 r.2))])
def Jef (b1 : T_api_Page) (o : (Int × T_pagemenddraw_Codes × T_api_Page) ⊕ (T_api_Page × T_pagemenddraw_Codes)) : Option Res := match o with
  | .inl s => rk (J1 p) J0V 1 [.bl 0, .sq (.keep [4, 5] J2i)] (X (J1 p) (.lp 3 [0, 4, 5, 6] J1L) ⟨[(0, .ptr 0 0), (4, .ptr 1 0), (5, .ptr 2 0), (6, .p (.i .i64 s.1))], [.box (List.map AV.p (J0 s.2.1)), .box (List.map AV.p (J4 b1)), .box (List.map AV.p (J4 s.2.2))]⟩)
  | .inr o => J2K o
def J2S (b0 : T_pagemenddraw_Codes) (b1 : T_api_Page) (b2 : T_api_Page) : Option (T_api_Page × T_pagemenddraw_Codes) :=
  some (b2, b0)
theorem J9f {b0 : T_pagemenddraw_Codes} {b1 : T_api_Page} {b2 : T_api_Page} {o : T_api_Page × T_pagemenddraw_Codes} (h : J2S b0 b1 b2 = some o) :
    rk (J1 p) J0V 1 [] (X (J1 p) J2i ⟨[(4, .ptr 1 0), (5, .ptr 2 0)], [.box (List.map AV.p (J0 b0)), .box (List.map AV.p (J4 b1)), .box (List.map AV.p (J4 b2))]⟩) = J2K o := by
  unfold J2S at h
  obtain rfl := sj h
  try simp only [↓Da, Ua, J2i, J6, J2, Jf, JfD, ↓reduceIte, Nat.reduceEqDiff, Nat.reduceAdd, Nat.reduceLT, Nat.reduceMul]
  rfl
def J2g (b1 : T_api_Page) (x6 : Int) (b0 : T_pagemenddraw_Codes) (b2 : T_api_Page) : Option (((Int × T_pagemenddraw_Codes × T_api_Page) ⊕ (T_api_Page × T_pagemenddraw_Codes))) :=
  if (decide (x6 > 0)) then
    Option.bind (JR b0 16) fun r2 =>
    Option.bind (J3K r2.2) fun r5 =>
    Option.bind (inb 16 r2.1) fun u8 =>
    Option.bind (J5i b2.Cells r2.1) fun y11 =>
    some (.inl ((IntKind.wrap .i64 (x6 - 1)), r5.2, (⟨b2.ID, b2.LSN, (J7s b2.Cells r2.1 r5.1)⟩ : T_api_Page)))
  else
    Option.map (fun o => .inr o) (J2S b0 b1 b2)
theorem J9h {b1 : T_api_Page} {x6 : Int} {b0 : T_pagemenddraw_Codes} {b2 : T_api_Page} {o : ((Int × T_pagemenddraw_Codes × T_api_Page) ⊕ (T_api_Page × T_pagemenddraw_Codes))} (h : J2g b1 x6 b0 b2 = some o) :
    rk (J1 p) J0V 1 [.lo 3 [0, 4, 5, 6] J1L, .bl 0, .sq (.keep [4, 5] J2i)] (X (J1 p) J1L ⟨[(0, .ptr 0 0), (4, .ptr 1 0), (5, .ptr 2 0), (6, .p (.i .i64 x6))], [.box (List.map AV.p (J0 b0)), .box (List.map AV.p (J4 b1)), .box (List.map AV.p (J4 b2))]⟩) = (Jef p b1) o := by
  unfold J2g at h
  rcases Je h with ⟨h1, h⟩ | ⟨h1, h⟩
  · obtain ⟨r2, h3, h⟩ := bi h
    have f4 : ∀ ws new s, J1o ws s [0] [List.map AV.p (J0 b0)] → (Jx (AF (J1 p)) Jk ([.ptr 0 0, .p (.i .i64 16)], ws) 0 new).run s = some ⟨.p (.i .i64 r2.1), ws ++ [(0, .box (List.map AV.p (J0 r2.2)))]⟩ := J10 (args' := [.ptr 0 0, .p (.i .i64 16)]) (bs := [0]) (css := [List.map AV.p (J0 b0)]) (css' := [List.map AV.p (J0 r2.2)]) rfl rfl rfl (by simp [J02, Jy]) (J1q p h3) rfl rfl (by simp [J02, Jy])
    try simp only [Nf] at f4
    obtain ⟨r5, h6, h⟩ := bi h
    have f7 : ∀ ws new s, J1o ws s [0] [List.map AV.p (J0 r2.2)] → (Jx (AF (J1 p)) J3D ([.ptr 0 0], ws) 0 new).run s = some ⟨.data (Jd r5.1), ws ++ [(0, .box (List.map AV.p (J0 r5.2)))]⟩ := J10 (args' := [.ptr 0 0]) (bs := [0]) (css := [List.map AV.p (J0 r2.2)]) (css' := [List.map AV.p (J0 r5.2)]) rfl rfl rfl (by simp [J02, Jy]) (JfO p h6) rfl rfl (by simp [J02, Jy])
    try simp only [Nf] at f7
    obtain ⟨u8, h9, h⟩ := bi h
    have f10 : (0 ≤ (r2.1 : Int) ∧ (r2.1 : Int) < ((16 : Nat) : Int)) = True := eq_true (JcC h9)
    obtain ⟨y11, h12, h⟩ := bi h
    have f13 : spl (J4 b2) (2 + Int.toNat r2.1 * 2) (Jd r5.1) = some (J4 (⟨b2.ID, b2.LSN, (J7s b2.Cells r2.1 r5.1)⟩ : T_api_Page)) := by
      have e0 := (Jn6 (J7q b2) (Jm7 (v := b2.Cells) JU (Jj4 h12) r5.1) (J7d b2 _))
      exact e0
    try simp only [Nf] at f13
    obtain rfl := sj h
    try simp only [↓Da, Ua, J1L, J6, Jg, *, ↓reduceIte, Nat.reduceEqDiff, Nat.reduceAdd, Nat.reduceLT, Nat.reduceMul]
    rfl
  · obtain ⟨o', h', rfl⟩ := mi h
    try simp only [↓Da, Ua, J1L, J6, Jg, *, ↓reduceIte, Nat.reduceEqDiff, Nat.reduceAdd, Nat.reduceLT, Nat.reduceMul]
    have e0 := J9f p h'
    exact e0
def J9l (b1 : T_api_Page) (s : Int × T_pagemenddraw_Codes × T_api_Page) : Option (T_api_Page × T_pagemenddraw_Codes) :=
  JQ (fun s => J2g b1 s.1 s.2.1 s.2.2) s
theorem Jcx {b1 : T_api_Page} {s : Int × T_pagemenddraw_Codes × T_api_Page} {o : T_api_Page × T_pagemenddraw_Codes} (h : J9l b1 s = some o) :
    rk (J1 p) J0V 1 [.bl 0, .sq (.keep [4, 5] J2i)] (X (J1 p) (.lp 3 [0, 4, 5, 6] J1L) ⟨[(0, .ptr 0 0), (4, .ptr 1 0), (5, .ptr 2 0), (6, .p (.i .i64 s.1))], [.box (List.map AV.p (J0 s.2.1)), .box (List.map AV.p (J4 b1)), .box (List.map AV.p (J4 s.2.2))]⟩) = J2K o := by
  have h0 : JQ (fun s => J2g b1 s.1 s.2.1 s.2.2) s = some o := h
  exact J3l (P := fun (s : Int × T_pagemenddraw_Codes × T_api_Page) (o : T_api_Page × T_pagemenddraw_Codes) => rk (J1 p) J0V 1 [.bl 0, .sq (.keep [4, 5] J2i)] (X (J1 p) (.lp 3 [0, 4, 5, 6] J1L) ⟨[(0, .ptr 0 0), (4, .ptr 1 0), (5, .ptr 2 0), (6, .p (.i .i64 s.1))], [.box (List.map AV.p (J0 s.2.1)), .box (List.map AV.p (J4 b1)), .box (List.map AV.p (J4 s.2.2))]⟩) = J2K o) (fun s r hs => by rw [J4p]; exact J9h p hs) (fun s s1 r hs ih => by rw [J4p]; exact (J9h p hs).trans ih) h0
def J2V (b0 : T_pagemenddraw_Codes) (b1 : T_api_Page) (b2 : T_api_Page) : Option (T_api_Page × T_pagemenddraw_Codes) :=
  if (decide (b2.LSN > 0)) then
    Option.bind (JR b0 6) fun r2 =>
    J9l b1 (r2.1, r2.2, b2)
  else
    J2S b0 b1 b2
theorem J9j {b0 : T_pagemenddraw_Codes} {b1 : T_api_Page} {b2 : T_api_Page} {o : T_api_Page × T_pagemenddraw_Codes} (h : J2V b0 b1 b2 = some o) :
    rk (J1 p) J0V 1 [] (X (J1 p) J5f ⟨[(0, .ptr 0 0), (4, .ptr 1 0), (5, .ptr 2 0)], [.box (List.map AV.p (J0 b0)), .box (List.map AV.p (J4 b1)), .box (List.map AV.p (J4 b2))]⟩) = J2K o := by
  unfold J2V at h
  rcases Je h with ⟨h1, h⟩ | ⟨h1, h⟩
  · obtain ⟨r2, h3, h⟩ := bi h
    have f4 : ∀ ws new s, J1o ws s [0] [List.map AV.p (J0 b0)] → (Jx (AF (J1 p)) Jk ([.ptr 0 0, .p (.i .i64 6)], ws) 0 new).run s = some ⟨.p (.i .i64 r2.1), ws ++ [(0, .box (List.map AV.p (J0 r2.2)))]⟩ := J10 (args' := [.ptr 0 0, .p (.i .i64 6)]) (bs := [0]) (css := [List.map AV.p (J0 b0)]) (css' := [List.map AV.p (J0 r2.2)]) rfl rfl rfl (by simp [J02, Jy]) (J1q p h3) rfl rfl (by simp [J02, Jy])
    try simp only [Nf] at f4
    try simp only [↓Da, Ua, J5f, J6, J2, Jf, Jg, *, ↓reduceIte, Nat.reduceEqDiff, Nat.reduceAdd, Nat.reduceLT, Nat.reduceMul]
    have e0 := Jcx p h
    exact e0
  · try simp only [↓Da, Ua, J5f, J6, J2, Jf, Jg, *, ↓reduceIte, Nat.reduceEqDiff, Nat.reduceAdd, Nat.reduceLT, Nat.reduceMul]
    have e0 := J9f p h
    exact e0
def J2H (b0 : T_pagemenddraw_Codes) (x1 : Int) : Option (T_api_Page × T_pagemenddraw_Codes) :=
  Option.bind (JR b0 50) fun r1 =>
  Option.bind (JR r1.2 10) fun r4 =>
  if ((r4.1 : Int) == 9) then
    Option.bind (JR r4.2 2) fun r8 =>
    J2V r8.2 (⟨0, 0, (Vector.replicate 16 (⟨false, []⟩ : J5))⟩ : T_api_Page) (⟨x1, (IntKind.wrap .i64 (1099511627776 - r8.1)), (Vector.replicate 16 (⟨false, []⟩ : J5))⟩ : T_api_Page)
  else
    J2V r4.2 (⟨0, 0, (Vector.replicate 16 (⟨false, []⟩ : J5))⟩ : T_api_Page) (⟨x1, r1.1, (Vector.replicate 16 (⟨false, []⟩ : J5))⟩ : T_api_Page)
theorem Jcp {b0 : T_pagemenddraw_Codes} {x1 : Int} {o : T_api_Page × T_pagemenddraw_Codes} (h : J2H b0 x1 = some o) :
    rk (J1 p) J0V 1 [] (X (J1 p) J2D ⟨[(0, .ptr 0 0), (1, .p (.i .i64 x1))], [.box (List.map AV.p (J0 b0))]⟩) = J2K o := by
  unfold J2H at h
  obtain ⟨r1, h2, h⟩ := bi h
  have f3 : ∀ ws new s, J1o ws s [0] [List.map AV.p (J0 b0)] → (Jx (AF (J1 p)) Jk ([.ptr 0 0, .p (.i .i64 50)], ws) 0 new).run s = some ⟨.p (.i .i64 r1.1), ws ++ [(0, .box (List.map AV.p (J0 r1.2)))]⟩ := J10 (args' := [.ptr 0 0, .p (.i .i64 50)]) (bs := [0]) (css := [List.map AV.p (J0 b0)]) (css' := [List.map AV.p (J0 r1.2)]) rfl rfl rfl (by simp [J02, Jy]) (J1q p h2) rfl rfl (by simp [J02, Jy])
  try simp only [Nf] at f3
  obtain ⟨r4, h5, h⟩ := bi h
  have f6 : ∀ ws new s, J1o ws s [0] [List.map AV.p (J0 r1.2)] → (Jx (AF (J1 p)) Jk ([.ptr 0 0, .p (.i .i64 10)], ws) 0 new).run s = some ⟨.p (.i .i64 r4.1), ws ++ [(0, .box (List.map AV.p (J0 r4.2)))]⟩ := J10 (args' := [.ptr 0 0, .p (.i .i64 10)]) (bs := [0]) (css := [List.map AV.p (J0 r1.2)]) (css' := [List.map AV.p (J0 r4.2)]) rfl rfl rfl (by simp [J02, Jy]) (J1q p h5) rfl rfl (by simp [J02, Jy])
  try simp only [Nf] at f6
  try simp only [↓Da, Ua, J2D, J6, J2, Jf, Jg, *, ↓reduceIte, Nat.reduceEqDiff, Nat.reduceAdd, Nat.reduceLT, Nat.reduceMul]
  rcases Je h with ⟨h7, h⟩ | ⟨h7, h⟩
  · have h7n : ((r4.1 : Int) != 9) = false := by rw [bne, h7]; rfl
    obtain ⟨r8, h9, h⟩ := bi h
    have f10 : ∀ ws new s, J1o ws s [0] [List.map AV.p (J0 r4.2)] → (Jx (AF (J1 p)) Jk ([.ptr 0 0, .p (.i .i64 2)], ws) 0 new).run s = some ⟨.p (.i .i64 r8.1), ws ++ [(0, .box (List.map AV.p (J0 r8.2)))]⟩ := J10 (args' := [.ptr 0 0, .p (.i .i64 2)]) (bs := [0]) (css := [List.map AV.p (J0 r4.2)]) (css' := [List.map AV.p (J0 r8.2)]) rfl rfl rfl (by simp [J02, Jy]) (J1q p h9) rfl rfl (by simp [J02, Jy])
    try simp only [Nf] at f10
    try simp only [↓Da, Ua, J2D, J6, J2, Jf, Jg, *, ↓reduceIte, Nat.reduceEqDiff, Nat.reduceAdd, Nat.reduceLT, Nat.reduceMul]
    have e0 := J9j p h
    exact e0
  · have h7n : ((r4.1 : Int) != 9) = true := by rw [bne, h7]; rfl
    try simp only [↓Da, Ua, J2D, J6, J2, Jf, Jg, *, ↓reduceIte, Nat.reduceEqDiff, Nat.reduceAdd, Nat.reduceLT, Nat.reduceMul]
    have e0 := J9j p h
    exact e0
theorem Jaq {b0 : T_pagemenddraw_Codes} {x1 : Int} {o : T_api_Page × T_pagemenddraw_Codes} (h : J2H b0 x1 = some o) : AF (J1 p) J1O [.ptr 0 0, .p (.i .i64 x1)] [.box (List.map AV.p (J0 b0))] = J2K o :=
  (J14 (J1 p) (JfL p) rfl).trans (Jcp p h)
def J8j  : Option ((List UInt8)) :=
  Option.bind (J4u 256) fun r1 =>
  some r1
def JeS  (r : (List UInt8)) : Option Res := some (.p (.s r), [])
def J4n  : Option ((List UInt8)) :=
  Option.bind (J38 ([0]) 256) fun r1 =>
  some r1
theorem Jgz  {o : (List UInt8)} (h : J4n = some o) :
    rk (J1 p) J66 0 [] (X (J1 p) J7l ⟨[], []⟩) = JeS o := by
  unfold J4n at h
  obtain ⟨r1, h2, h⟩ := bi h
  have f3 := J8u p h2
  try simp only [Nf] at f3
  obtain rfl := sj h
  try simp only [↓Da, Ua, J7l, Jlr, *, ↓reduceIte, Nat.reduceEqDiff, Nat.reduceAdd, Nat.reduceLT, Nat.reduceMul]
  rfl
theorem Jlq  {o : (List UInt8)} (h : J4n = some o) : AF (J1 p) J4j [] [] = JeS o :=
  (J14 (J1 p) (Jlj p) rfl).trans (Jgz p h)
theorem Jek  {o : (List UInt8)} (h : J4n = some o) : ∀ ws new st, (Jx (AF (J1 p)) J4j ([], ws) 0 new).run st = some ⟨.p (.s o), ws⟩ := JW rfl (Jlq p h) rfl
def JbC  : Option (Bool) :=
  some true
def J72 (b0 : Ji) (x3 : Int) : Option (((Int) ⊕ (Bool))) :=
  if (decide (x3 < ((List.length b0.Rows : Nat) : Int))) then
    Option.bind (idx b0.Rows x3) fun y2 =>
    Option.bind (J9F y2.LSN) fun r5 =>
    if r5 then
      Option.bind (J9F y2.Image) fun r9 =>
      if r9 then
        Option.bind (J9F y2.ImageLSN) fun r13 =>
        if r13 then
          if ((y2.Image : Int) == 0) then
            if ((y2.ImageLSN : Int) != 0) then
              some (.inr false)
            else
              some (.inl (IntKind.wrap .i64 (x3 + 1)))
          else
            some (.inl (IntKind.wrap .i64 (x3 + 1)))
        else
          some (.inr false)
      else
        some (.inr false)
    else
      some (.inr false)
  else
    Option.map (fun o => .inr o) (JbC)
def JbE (b0 : Ji) (s : Int) : Option (Bool) :=
  JQ (fun s => J72 b0 s) s
def Ja3 (x0 : Ji) : Option (Bool) :=
  if (decide (((List.length x0.Rows : Nat) : Int) < 1)) then
    some false
  else
    if (decide (((List.length x0.Rows : Nat) : Int) > 64)) then
      some false
    else
      JbE x0 0
def JdS  (r : Bool) : Option Res := some (.p (.b r), [])
def J1v (x0 : T_api_Page) : Option (Bool) :=
  Option.bind (J1e x0.ID) fun r1 =>
  if r1 then
    if (decide (x0.LSN ≥ 0)) then
      some (decide (x0.LSN ≤ 1099511627776))
    else
      some false
  else
    some false
theorem JfJ {x0 : T_api_Page} {o : Bool} (h : J1v x0 = some o) :
    rk (J1 p) J5q 0 [] (X (J1 p) J35 ⟨[(0, .data (J4 x0))], []⟩) = JdS o := by
  unfold J1v at h
  obtain ⟨r1, h2, h⟩ := bi h
  have f3 := Jf2 p h2
  try simp only [Nf] at f3
  try simp only [↓Da, Ua, J35, J6, J2, Jf, *, ↓reduceIte, Nat.reduceEqDiff, Nat.reduceAdd, Nat.reduceLT, Nat.reduceMul]
  rcases Je h with ⟨h4, h⟩ | ⟨h4, h⟩
  · try simp only [↓Da, Ua, J35, J6, J2, Jf, *, ↓reduceIte, Nat.reduceEqDiff, Nat.reduceAdd, Nat.reduceLT, Nat.reduceMul]
    rcases Je h with ⟨h5, h⟩ | ⟨h5, h⟩
    · obtain rfl := sj h
      try simp only [↓Da, Ua, J35, J6, J2, Jf, J9T, *, ↓reduceIte, Nat.reduceEqDiff, Nat.reduceAdd, Nat.reduceLT, Nat.reduceMul]
      rfl
    · obtain rfl := sj h
      try simp only [↓Da, Ua, J35, J6, J2, Jf, J9T, *, ↓reduceIte, Nat.reduceEqDiff, Nat.reduceAdd, Nat.reduceLT, Nat.reduceMul]
      rfl
  · obtain rfl := sj h
    try simp only [↓Da, Ua, J35, J6, J2, Jf, J9T, *, ↓reduceIte, Nat.reduceEqDiff, Nat.reduceAdd, Nat.reduceLT, Nat.reduceMul]
    rfl
theorem Jkq {x0 : T_api_Page} {o : Bool} (h : J1v x0 = some o) : AF (J1 p) J5y [.data (J4 x0)] [] = JdS o :=
  (J14 (J1 p) (JjU p) rfl).trans (JfJ p h)
theorem Jkv {x0 : T_api_Page} {o : Bool} (h : J1v x0 = some o) : ∀ ws new st, (Jx (AF (J1 p)) J5y ([.data (J4 x0)], ws) 0 new).run st = some ⟨.p (.b o), ws⟩ := JW rfl (Jkq p h) rfl
def J6Q  (r : T_page_builder) : Option Res := some (.tup [], [.box (List.map AV.p (J0R r))])
def J1n (x4 : Int) (b0 : T_page_builder) (b1 : J5) : Option (T_page_builder) :=
  Option.bind (J4S b0.s_ x4 1) fun r1 =>
  Option.bind (J37 r1 b1.Data) fun s5 =>
  Option.bind (J38 ([0]) (IntKind.wrap .i64 (12 - ((List.length b1.Data : Nat) : Int)))) fun r7 =>
  Option.bind (J37 s5 r7) fun s11 =>
  some (⟨s11⟩ : T_page_builder)
theorem J8A {x4 : Int} {b0 : T_page_builder} {b1 : J5} {o : T_page_builder} (h : J1n x4 b0 b1 = some o) :
    rk (J1 p) J2f 1 [] (X (J1 p) J6e ⟨[(0, .ptr 0 0), (3, .ptr 1 0), (4, .p (.i .i64 x4))], [.box (List.map AV.p (J0R b0)), .box (List.map AV.p (Jd b1))]⟩) = J6Q o := by
  unfold J1n at h
  obtain ⟨r1, h2, h⟩ := bi h
  have f3 := J82 p h2
  try simp only [Nf, JK] at f3
  have f4 : ∀ ws k new s, Jm ((Jx (AF (J1 p)) J21 ([.p (.s b0.s_), .p (.i .i64 x4), .p (.i .i64 1)], ws) k new).reads s) = [] := J12 rfl
  try simp only [Nf, JK] at f4
  obtain ⟨s5, h6, h⟩ := bi h
  obtain ⟨r7, h8, h⟩ := bi h
  have f9 := J8u p h8
  try simp only [Nf, JK] at f9
  have f10 : ∀ ws k new s, Jm ((Jx (AF (J1 p)) J28 ([.p (.s [0]), .p (.i .i64 (IntKind.wrap .i64 (12 - ((List.length b1.Data : Nat) : Int))))], ws) k new).reads s) = [] := J12 rfl
  try simp only [Nf, JK] at f10
  obtain ⟨s11, h12, h⟩ := bi h
  obtain rfl := sj h
  try simp only [↓Da, Ua, Ra, J6e, J6, JK, Jei, *, ↓reduceIte, Nat.reduceEqDiff, Nat.reduceAdd, Nat.reduceLT, Nat.reduceMul, Nat.reduceBEq]
  rfl
def J1J (b0 : T_page_builder) (x1 : J5) : Option (T_page_builder) :=
  if x1.Set then
    J1n ((List.length x1.Data : Nat) : Int) b0 x1
  else
    J1n 255 b0 x1
theorem Jbt {b0 : T_page_builder} {x1 : J5} {o : T_page_builder} (h : J1J b0 x1 = some o) :
    rk (J1 p) J2f 1 [] (X (J1 p) J2R ⟨[(0, .ptr 0 0), (1, .data (Jd x1))], [.box (List.map AV.p (J0R b0))]⟩) = J6Q o := by
  unfold J1J at h
  rcases Je h with ⟨h1, h⟩ | ⟨h1, h⟩
  · try simp only [↓Da, Ua, J2R, J6, JK, *, ↓reduceIte, Nat.reduceEqDiff, Nat.reduceAdd, Nat.reduceLT, Nat.reduceMul]
    have e0 := J8A p h
    exact e0
  · try simp only [↓Da, Ua, J2R, J6, JK, *, ↓reduceIte, Nat.reduceEqDiff, Nat.reduceAdd, Nat.reduceLT, Nat.reduceMul]
    have e0 := J8A p h
    exact e0
theorem Je6 {b0 : T_page_builder} {x1 : J5} {o : T_page_builder} (h : J1J b0 x1 = some o) : AF (J1 p) J1b [.ptr 0 0, .data (Jd x1)] [.box (List.map AV.p (J0R b0))] = J6Q o :=
  (J14 (J1 p) (Jed p) rfl).trans (Jbt p h)
def J6P  (r : Int) : Option Res := some (.p (.i .u32 r), [])
def Jk8 (x0 : List UInt8) (x8 : Int) (b0 : Vector Int 16) (o : (Int × Int) ⊕ (Int)) : Option Res := match o with
  | .inl s => rk (J1 p) J2Z 0 [.bl 0, .sq (.keep [4] J4z)] (X (J1 p) (.lp 1 [0, 3, 4, 8, 9] J3S) ⟨[(0, .p (.s x0)), (3, .ptr 0 0), (4, .p (.i .u32 s.1)), (8, .p (.i .i64 x8)), (9, .p (.i .i64 s.2))], [.box (List.map AV.p ((J07 (r_i .u32)) b0))]⟩)
  | .inr o => J6P o
def J5u (x4 : Int) : Option (Int) :=
  some (Jjd .u32 x4)
theorem Jk5 {x4 : Int} {B0 : List PV} {o : Int} (h : J5u x4 = some o) :
    rk (J1 p) J2Z 0 [] (X (J1 p) J4z ⟨[(4, .p (.i .u32 x4))], [.box (List.map AV.p B0)]⟩) = J6P o := by
  unfold J5u at h
  obtain rfl := sj h
  try simp only [↓Da, Ua, J4z, Jms, ↓reduceIte, Nat.reduceEqDiff, Nat.reduceAdd, Nat.reduceLT, Nat.reduceMul]
  rfl
def J1P (x0 : List UInt8) (x8 : Int) (b0 : Vector Int 16) (x4 : Int) (x9 : Int) : Option (((Int × Int) ⊕ (Int))) :=
  if (decide (x9 < x8)) then
    Option.bind (Jbq x0 x9) fun c2 =>
    Option.bind (J8p .u32 (J56 .u32 x4 (IntKind.wrap .u32 c2)) 4) fun q4 =>
    Option.bind (inb 16 (J4t .u32 (J56 .u32 x4 (IntKind.wrap .u32 c2)) 15)) fun u6 =>
    Option.bind (J5i b0 (J4t .u32 (J56 .u32 x4 (IntKind.wrap .u32 c2)) 15)) fun y9 =>
    Option.bind (J8p .u32 (J56 .u32 q4 y9) 4) fun q12 =>
    Option.bind (inb 16 (J4t .u32 (J56 .u32 q4 y9) 15)) fun u14 =>
    Option.bind (J5i b0 (J4t .u32 (J56 .u32 q4 y9) 15)) fun y17 =>
    some (.inl ((J56 .u32 q12 y17), (IntKind.wrap .i64 (x9 + 1))))
  else
    Option.map (fun o => .inr o) (J5u x4)
theorem JdO {x0 : List UInt8} {x8 : Int} {b0 : Vector Int 16} {x4 : Int} {x9 : Int} {o : ((Int × Int) ⊕ (Int))} (h : J1P x0 x8 b0 x4 x9 = some o) :
    rk (J1 p) J2Z 0 [.lo 1 [0, 3, 4, 8, 9] J3S, .bl 0, .sq (.keep [4] J4z)] (X (J1 p) J3S ⟨[(0, .p (.s x0)), (3, .ptr 0 0), (4, .p (.i .u32 x4)), (8, .p (.i .i64 x8)), (9, .p (.i .i64 x9))], [.box (List.map AV.p ((J07 (r_i .u32)) b0))]⟩) = (Jk8 p x0 x8 b0) o := by
  unfold J1P at h
  rcases Je h with ⟨h1, h⟩ | ⟨h1, h⟩
  · obtain ⟨c2, h3, h⟩ := bi h
    obtain ⟨q4, h5, h⟩ := bi h
    obtain ⟨u6, h7, h⟩ := bi h
    have f8 : (0 ≤ ((J4t .u32 (J56 .u32 x4 (IntKind.wrap .u32 c2)) 15) : Int) ∧ ((J4t .u32 (J56 .u32 x4 (IntKind.wrap .u32 c2)) 15) : Int) < ((16 : Nat) : Int)) = True := eq_true (JcC h7)
    obtain ⟨y9, h10, h⟩ := bi h
    have f11 : sub ((J07 (r_i .u32)) b0) (Int.toNat (J4t .u32 (J56 .u32 x4 (IntKind.wrap .u32 c2)) 15) * 1) 1 = some ((r_i .u32) y9) := by
      have e0 := (Jim (v := b0) (J9y .u32) (J8s h10).2)
      exact e0
    try simp only [Nf] at f11
    obtain ⟨q12, h13, h⟩ := bi h
    obtain ⟨u14, h15, h⟩ := bi h
    have f16 : (0 ≤ ((J4t .u32 (J56 .u32 q4 y9) 15) : Int) ∧ ((J4t .u32 (J56 .u32 q4 y9) 15) : Int) < ((16 : Nat) : Int)) = True := eq_true (JcC h15)
    obtain ⟨y17, h18, h⟩ := bi h
    have f19 : sub ((J07 (r_i .u32)) b0) (Int.toNat (J4t .u32 (J56 .u32 q4 y9) 15) * 1) 1 = some ((r_i .u32) y17) := by
      have e0 := (Jim (v := b0) (J9y .u32) (J8s h18).2)
      exact e0
    try simp only [Nf] at f19
    obtain rfl := sj h
    try simp only [↓Da, Ua, J3S, J5I, *, ↓reduceIte, Nat.reduceEqDiff, Nat.reduceAdd, Nat.reduceLT, Nat.reduceMul]
    rfl
  · obtain ⟨o', h', rfl⟩ := mi h
    try simp only [↓Da, Ua, J3S, J5I, *, ↓reduceIte, Nat.reduceEqDiff, Nat.reduceAdd, Nat.reduceLT, Nat.reduceMul]
    have e0 := Jk5 p (B0 := ((J07 (r_i .u32)) b0)) h'
    exact e0
def JdN (x0 : List UInt8) (x8 : Int) (b0 : Vector Int 16) (s : Int × Int) : Option (Int) :=
  JQ (fun s => J1P x0 x8 b0 s.1 s.2) s
theorem Ji4 {x0 : List UInt8} {x8 : Int} {b0 : Vector Int 16} {s : Int × Int} {o : Int} (h : JdN x0 x8 b0 s = some o) :
    rk (J1 p) J2Z 0 [.bl 0, .sq (.keep [4] J4z)] (X (J1 p) (.lp 1 [0, 3, 4, 8, 9] J3S) ⟨[(0, .p (.s x0)), (3, .ptr 0 0), (4, .p (.i .u32 s.1)), (8, .p (.i .i64 x8)), (9, .p (.i .i64 s.2))], [.box (List.map AV.p ((J07 (r_i .u32)) b0))]⟩) = J6P o := by
  have h0 : JQ (fun s => J1P x0 x8 b0 s.1 s.2) s = some o := h
  exact J3l (P := fun (s : Int × Int) (o : Int) => rk (J1 p) J2Z 0 [.bl 0, .sq (.keep [4] J4z)] (X (J1 p) (.lp 1 [0, 3, 4, 8, 9] J3S) ⟨[(0, .p (.s x0)), (3, .ptr 0 0), (4, .p (.i .u32 s.1)), (8, .p (.i .i64 x8)), (9, .p (.i .i64 s.2))], [.box (List.map AV.p ((J07 (r_i .u32)) b0))]⟩) = J6P o) (fun s r hs => by rw [J4p]; exact JdO p hs) (fun s s1 r hs ih => by rw [J4p]; exact (JdO p hs).trans ih) h0
def J1X (x0 : List UInt8) : Option (Int) :=
  Option.bind (J2t) fun r1 =>
  JdN x0 ((List.length x0 : Nat) : Int) r1 (4294967295, 0)
theorem Jie {x0 : List UInt8} {o : Int} (h : J1X x0 = some o) :
    rk (J1 p) J2Z 0 [] (X (J1 p) J7Y ⟨[(0, .p (.s x0))], []⟩) = J6P o := by
  unfold J1X at h
  obtain ⟨r1, h2, h⟩ := bi h
  have f3 := JeC p h2
  try simp only [Nf] at f3
  try simp only [↓Da, Ua, J7Y, J5I, *, ↓reduceIte, Nat.reduceEqDiff, Nat.reduceAdd, Nat.reduceLT, Nat.reduceMul]
  have e0 := Ji4 p h
  exact e0
theorem JmE {x0 : List UInt8} {o : Int} (h : J1X x0 = some o) : AF (J1 p) J4Q [.p (.s x0)] [] = J6P o :=
  (J14 (J1 p) (Jmq p) rfl).trans (Jie p h)
theorem Jg5 {x0 : List UInt8} {o : Int} (h : J1X x0 = some o) : ∀ ws new st, (Jx (AF (J1 p)) J4Q ([.p (.s x0)], ws) 0 new).run st = some ⟨.p (.i .u32 o), ws⟩ := JW rfl (JmE p h) rfl
end
end Go.Am
end
