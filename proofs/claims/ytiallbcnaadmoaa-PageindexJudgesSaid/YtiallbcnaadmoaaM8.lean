/-
  Parts of a proof: YtiallbcnaadmoaaKS1, YtiallbcnaadmoaaKS2, YtiallbcnaadmoaaKS3.
-/
import Derived.Test.YtiallbcnaadmoaaM7
set_option linter.unusedSimpArgs false
set_option linter.unusedVariables false
section
namespace Go.Am
set_option maxRecDepth 8000
set_option maxHeartbeats 4000000
set_option linter.unusedSimpArgs false
set_option linter.unusedVariables false
noncomputable section
variable (p : FuncId → Option (List AV → List Blk → Option Res))
def Jfs  (r : T_pagemenddraw_Codes) : Option Res := some (.ptr 0 0, [.box (List.map AV.p (J0 r))])
def J9E (x0 : List Int) : Option (T_pagemenddraw_Codes) :=
  some (⟨x0, 0⟩ : T_pagemenddraw_Codes)
theorem JgW {x0 : List Int} {o : T_pagemenddraw_Codes} (h : J9E x0 = some o) :
    rk (J1 p) J8H 0 [] (X (J1 p) JcV ⟨[(0, .p (.sl 1 (List.map (r_i .u8) x0)))], []⟩) = Jfs o := by
  unfold J9E at h
  obtain rfl := sj h
  try simp only [↓Da, Ua, JcV, Jl, Jqs, ↓reduceIte, Nat.reduceEqDiff, Nat.reduceAdd, Nat.reduceLT, Nat.reduceMul]
  rfl
def J6i (x0 : List Int) (x1 : Int) : Option (T_pagemenddraw_Codes) :=
  if (decide (((List.length x0 : Nat) : Int) > x1)) then
    Option.bind (J34 x0 none (some x1)) fun m2 =>
    J9E m2
  else
    J9E x0
theorem Jlz {x0 : List Int} {x1 : Int} {o : T_pagemenddraw_Codes} (h : J6i x0 x1 = some o) :
    rk (J1 p) J8H 0 [] (X (J1 p) J9Q ⟨[(0, .p (.sl 1 (List.map (r_i .u8) x0))), (1, .p (.i .i64 x1))], []⟩) = Jfs o := by
  unfold J6i at h
  rcases J9 h with ⟨h1, h⟩ | ⟨h1, h⟩
  · obtain ⟨m2, h3, h⟩ := bi h
    have f4 : J9C 1 (.p (.sl 1 (List.map (r_i .u8) x0))) none (some (.p (.i .i64 x1))) = some (.p (.sl 1 (List.map (r_i .u8) m2))) := Jrt (k := .i64) (lo := none) (hi := (some x1)) h3
    try simp only [Nf] at f4
    try simp only [↓Da, Ua, J9Q, Jl, *, ↓reduceIte, Nat.reduceEqDiff, Nat.reduceAdd, Nat.reduceLT, Nat.reduceMul]
    have e0 := JgW p h
    exact e0
  · try simp only [↓Da, Ua, J9Q, Jl, *, ↓reduceIte, Nat.reduceEqDiff, Nat.reduceAdd, Nat.reduceLT, Nat.reduceMul]
    have e0 := JgW p h
    exact e0
theorem Jrc {x0 : List Int} {x1 : Int} {o : T_pagemenddraw_Codes} (h : J6i x0 x1 = some o) : AF (J1 p) J9Y [.p (.sl 1 (List.map (r_i .u8) x0)), .p (.i .i64 x1)] [] = Jfs o :=
  (J0j (J1 p) (Jql p) rfl).trans (Jlz p h)
def J80  (r : Int × T_pagemenddraw_Codes) : Option Res := some (.p (.i .i64 r.1), [.box (List.map AV.p (J0 r.2))])
def J2T (rec : T_pagemenddraw_Codes → Int → Option (Int × T_pagemenddraw_Codes)) (b0 : T_pagemenddraw_Codes) (x1 : Int) : Option (Int × T_pagemenddraw_Codes) :=
  if (decide (b0.at_ ≥ ((List.length b0.l_ : Nat) : Int))) then
    some (0, b0)
  else
    if (decide (x1 < 1)) then
      some (0, b0)
    else
      Option.bind (idx b0.l_ b0.at_) fun y3 =>
      if (decide (x1 > 256)) then
        Option.bind (rec (⟨b0.l_, (IntKind.wrap .i64 (b0.at_ + 1))⟩ : T_pagemenddraw_Codes) 256) fun r7 =>
        Option.bind (Jlg (IntKind.wrap .i64 ((IntKind.wrap .i64 (256 * (IntKind.wrap .i64 y3))) + r7.1)) x1) fun q10 =>
        some (q10, r7.2)
      else
        Option.bind (Jlg (IntKind.wrap .i64 y3) x1) fun q12 =>
        some (q12, (⟨b0.l_, (IntKind.wrap .i64 (b0.at_ + 1))⟩ : T_pagemenddraw_Codes))
theorem Jeh {rec : T_pagemenddraw_Codes → Int → Option (Int × T_pagemenddraw_Codes)} (hrec : ∀ {b0 : T_pagemenddraw_Codes} {x1 : Int} {o : Int × T_pagemenddraw_Codes}, rec b0 x1 = some o → AF (J1 p) Jc [.ptr 0 0, .p (.i .i64 x1)] [.box (List.map AV.p (J0 b0))] = J80 o) {b0 : T_pagemenddraw_Codes} {x1 : Int} {o : Int × T_pagemenddraw_Codes} (h : J2T rec b0 x1 = some o) :
    rk (J1 p) J4U 1 [] (X (J1 p) J1L ⟨[(0, .ptr 0 0), (1, .p (.i .i64 x1))], [.box (List.map AV.p (J0 b0))]⟩) = J80 o := by
  unfold J2T at h
  rcases J9 h with ⟨h1, h⟩ | ⟨h1, h⟩
  · obtain rfl := sj h
    try simp only [↓Da, Ua, J1L, Jl, J81, *, ↓reduceIte, Nat.reduceEqDiff, Nat.reduceAdd, Nat.reduceLT, Nat.reduceMul]
    rfl
  · try simp only [↓Da, Ua, J1L, Jl, *, ↓reduceIte, Nat.reduceEqDiff, Nat.reduceAdd, Nat.reduceLT, Nat.reduceMul]
    rcases J9 h with ⟨h2, h⟩ | ⟨h2, h⟩
    · obtain rfl := sj h
      try simp only [↓Da, Ua, J1L, Jl, J81, *, ↓reduceIte, Nat.reduceEqDiff, Nat.reduceAdd, Nat.reduceLT, Nat.reduceMul]
      rfl
    · obtain ⟨y3, h4, h⟩ := bi h
      have f5 := J5J (r := (r_i .u8)) h4
      try simp only [Nf] at f5
      try simp only [↓Da, Ua, J1L, Jl, *, ↓reduceIte, Nat.reduceEqDiff, Nat.reduceAdd, Nat.reduceLT, Nat.reduceMul]
      rcases J9 h with ⟨h6, h⟩ | ⟨h6, h⟩
      · obtain ⟨r7, h8, h⟩ := bi h
        have f9 : ∀ ws new s, JP ws s [0] [List.map AV.p (J0 (⟨b0.l_, (IntKind.wrap .i64 (b0.at_ + 1))⟩ : T_pagemenddraw_Codes))] → (Jq (AF (J1 p)) Jc ([.ptr 0 0, .p (.i .i64 256)], ws) 0 new).run s = some ⟨.p (.i .i64 r7.1), ws ++ [(0, .box (List.map AV.p (J0 r7.2)))]⟩ := JG (args' := [.ptr 0 0, .p (.i .i64 256)]) (bs := [0]) (css := [List.map AV.p (J0 (⟨b0.l_, (IntKind.wrap .i64 (b0.at_ + 1))⟩ : T_pagemenddraw_Codes))]) (css' := [List.map AV.p (J0 r7.2)]) rfl rfl rfl (by simp [Jo, Jb]) (hrec h8) rfl rfl (by simp [Jo, Jb])
        try simp only [Nf] at f9
        obtain ⟨q10, h11, h⟩ := bi h
        obtain rfl := sj h
        try simp only [↓Da, Ua, J1L, Jl, J81, *, ↓reduceIte, Nat.reduceEqDiff, Nat.reduceAdd, Nat.reduceLT, Nat.reduceMul]
        rfl
      · obtain ⟨q12, h13, h⟩ := bi h
        obtain rfl := sj h
        try simp only [↓Da, Ua, J1L, Jl, J81, *, ↓reduceIte, Nat.reduceEqDiff, Nat.reduceAdd, Nat.reduceLT, Nat.reduceMul]
        rfl
def J0X : Nat → T_pagemenddraw_Codes → Int → Option (Int × T_pagemenddraw_Codes)
  | 0 => fun _ _ => none
  | n + 1 => J2T (J0X n)
def Jv : T_pagemenddraw_Codes → Int → Option (Int × T_pagemenddraw_Codes) := J0X 12
theorem Jbs : ∀ n, ∀ {b0 : T_pagemenddraw_Codes} {x1 : Int} {o : Int × T_pagemenddraw_Codes}, J0X n b0 x1 = some o → AF (J1 p) Jc [.ptr 0 0, .p (.i .i64 x1)] [.box (List.map AV.p (J0 b0))] = J80 o
  | 0 => fun h => by cases h
  | n + 1 => fun h => (J0j (J1 p) (Jig p) rfl).trans (Jeh p (Jbs n) h)
theorem JC {b0 : T_pagemenddraw_Codes} {x1 : Int} {o : Int × T_pagemenddraw_Codes} (h : Jv b0 x1 = some o) : AF (J1 p) Jc [.ptr 0 0, .p (.i .i64 x1)] [.box (List.map AV.p (J0 b0))] = J80 o := Jbs p 12 h
def Jdz  (r : T_api_Index × Int) : Option Res := some (.tup [.data (Jj r.1), .p (.i .i64 r.2)], [])
def J3G (x0 : Int) : Option (T_api_Index × Int) :=
  if (decide (x0 < 1)) then
    some ((⟨([] : List T_api_Row)⟩ : T_api_Index), 1)
  else
    if (decide (x0 > 64)) then
      some ((⟨([] : List T_api_Row)⟩ : T_api_Index), 1)
    else
      Option.bind (mkS 24 x0 x0 (⟨0, 0, 0⟩ : T_api_Row)) fun m3 =>
      some ((⟨m3⟩ : T_api_Index), 0)
theorem Jga {x0 : Int} {o : T_api_Index × Int} (h : J3G x0 = some o) :
    rk (J1 p) J5O 0 [] (X (J1 p) J3D ⟨[(0, .p (.i .i64 x0))], []⟩) = Jdz o := by
  unfold J3G at h
  rcases J9 h with ⟨h1, h⟩ | ⟨h1, h⟩
  · obtain rfl := sj h
    try simp only [↓Da, Ua, J3D, J5, Jk, JaS, *, ↓reduceIte, Nat.reduceEqDiff, Nat.reduceAdd, Nat.reduceLT, Nat.reduceMul]
    rfl
  · try simp only [↓Da, Ua, J3D, J5, Jk, *, ↓reduceIte, Nat.reduceEqDiff, Nat.reduceAdd, Nat.reduceLT, Nat.reduceMul]
    rcases J9 h with ⟨h2, h⟩ | ⟨h2, h⟩
    · obtain rfl := sj h
      try simp only [↓Da, Ua, J3D, J5, Jk, JaS, *, ↓reduceIte, Nat.reduceEqDiff, Nat.reduceAdd, Nat.reduceLT, Nat.reduceMul]
      rfl
    · obtain ⟨m3, h4, h⟩ := bi h
      have f5 : (0 ≤ (x0 : Int) ∧ (x0 : Int) ≤ x0 ∧ ((24 : Nat) : Int) * x0 ≤ 281474976710656 ∧ (x0 : Int) ≤ 281474976710656) = True := eq_true (J87 h4).1
      have f6 : List.replicate (Int.toNat x0) (Je (⟨0, 0, 0⟩ : T_api_Row)) = List.map Je m3 := by rw [(J87 h4).2, List.map_replicate]
      try simp only [Nf, J5] at f6
      obtain rfl := sj h
      try simp only [↓Da, Ua, J3D, J5, Jk, JaS, *, ↓reduceIte, Nat.reduceEqDiff, Nat.reduceAdd, Nat.reduceLT, Nat.reduceMul]
      rfl
theorem Jkw {x0 : Int} {o : T_api_Index × Int} (h : J3G x0 = some o) : AF (J1 p) J5Q [.p (.i .i64 x0)] [] = Jdz o :=
  (J0j (J1 p) (JjY p) rfl).trans (Jga p h)
theorem Jkb {x0 : Int} {o : T_api_Index × Int} (h : J3G x0 = some o) : ∀ ws new st, (Jq (AF (J1 p)) J5Q ([.p (.i .i64 x0)], ws) 0 new).run st = some ⟨.tup [.data (Jj o.1), .p (.i .i64 o.2)], ws⟩ := Jz rfl (Jkw p h) rfl
def J3y  (r : (List UInt8) × T_pagemenddraw_Codes) : Option Res := some (.p (.s r.1), [.box (List.map AV.p (J0 r.2))])
def Jg5 (x3 : Int) (w1 : Bool) (o : (Int × T_pagemenddraw_Codes × (List Int)) ⊕ ((List UInt8) × T_pagemenddraw_Codes)) : Option Res := match o with
  | .inl s => rk (J1 p) J15 1 [.bl 0, .sq (.keep [4] J2X)] (X (J1 p) (.lp 2 [0, 3, 4, 5] J28) ⟨[(0, .ptr 0 0), (3, .p (.i .i64 x3)), (4, .slr 1 0 (List.length s.2.2)), (5, .p (.i .i64 s.1))], [.box (List.map AV.p (J0 s.2.1)), .arr w1 1 (List.map (r_i .u8) s.2.2)]⟩)
  | .inr o => J3y o
def J6W (b0 : T_pagemenddraw_Codes) (l1 : List Int) : Option ((List UInt8) × T_pagemenddraw_Codes) :=
  some ((toStr l1), b0)
theorem Jg4 {b0 : T_pagemenddraw_Codes} {l1 : List Int} {w1 : Bool} {o : (List UInt8) × T_pagemenddraw_Codes} (h : J6W b0 l1 = some o) :
    rk (J1 p) J15 1 [] (X (J1 p) J2X ⟨[(4, .slr 1 0 (List.length l1))], [.box (List.map AV.p (J0 b0)), .arr w1 1 (List.map (r_i .u8) l1)]⟩) = J3y o := by
  unfold J6W at h
  obtain rfl := sj h
  try simp only [↓Da, Ua, J2X, JhI, ↓reduceIte, Nat.reduceEqDiff, Nat.reduceAdd, Nat.reduceLT, Nat.reduceMul]
  rfl
def J2Y (x3 : Int) (x5 : Int) (b0 : T_pagemenddraw_Codes) (l1 : List Int) : Option (((Int × T_pagemenddraw_Codes × (List Int)) ⊕ ((List UInt8) × T_pagemenddraw_Codes))) :=
  if (decide (x5 < x3)) then
    Option.bind (Jv b0 3) fun r2 =>
    Option.bind (Jlo 1 l1 ([(IntKind.wrap .u8 (IntKind.wrap .i64 (97 + r2.1)))] : List Int)) fun m5 =>
    some (.inl ((IntKind.wrap .i64 (x5 + 1)), r2.2, m5))
  else
    Option.map (fun o => .inr o) (J6W b0 l1)
theorem Jbt {x3 : Int} {x5 : Int} {b0 : T_pagemenddraw_Codes} {l1 : List Int} {w1 : Bool} {o : ((Int × T_pagemenddraw_Codes × (List Int)) ⊕ ((List UInt8) × T_pagemenddraw_Codes))} (h : J2Y x3 x5 b0 l1 = some o) :
    rk (J1 p) J15 1 [.lo 2 [0, 3, 4, 5] J28, .bl 0, .sq (.keep [4] J2X)] (X (J1 p) J28 ⟨[(0, .ptr 0 0), (3, .p (.i .i64 x3)), (4, .slr 1 0 (List.length l1)), (5, .p (.i .i64 x5))], [.box (List.map AV.p (J0 b0)), .arr w1 1 (List.map (r_i .u8) l1)]⟩) = (Jg5 p x3 w1) o := by
  unfold J2Y at h
  rcases J9 h with ⟨h1, h⟩ | ⟨h1, h⟩
  · obtain ⟨r2, h3, h⟩ := bi h
    have f4 : ∀ ws new s, JP ws s [0] [List.map AV.p (J0 b0)] → (Jq (AF (J1 p)) Jc ([.ptr 0 0, .p (.i .i64 3)], ws) 0 new).run s = some ⟨.p (.i .i64 r2.1), ws ++ [(0, .box (List.map AV.p (J0 r2.2)))]⟩ := JG (args' := [.ptr 0 0, .p (.i .i64 3)]) (bs := [0]) (css := [List.map AV.p (J0 b0)]) (css' := [List.map AV.p (J0 r2.2)]) rfl rfl rfl (by simp [Jo, Jb]) (JC p h3) rfl rfl (by simp [Jo, Jb])
    try simp only [Nf] at f4
    obtain ⟨m5, h6, h⟩ := bi h
    have f7 : ∀ s : St, s.sto[1]? = some (.arr w1 1 (List.map (r_i .u8) l1)) → (J0y 1 (.p (.sl 1 (List.map (r_i .u8) ([(IntKind.wrap .u8 (IntKind.wrap .i64 (97 + r2.1)))] : List Int))))).run s = some (List.map (r_i .u8) ([(IntKind.wrap .u8 (IntKind.wrap .i64 (97 + r2.1)))] : List Int)) → (J8s 1 1 (.slr 1 0 (List.length l1)) (.p (.sl 1 (List.map (r_i .u8) ([(IntKind.wrap .u8 (IntKind.wrap .i64 (97 + r2.1)))] : List Int))))).run s = some ⟨.slr 1 0 (List.length m5), [(1, .arr w1 1 (List.map (r_i .u8) m5))]⟩ := by
      intro s e1 e2; have e3 := JpO h6 e1 e2; try simp only [List.length_cons, List.length_nil, Nat.zero_add] at e3
      exact e3
    try simp only [Nf] at f7
    obtain rfl := sj h
    try simp only [↓Da, Ua, J28, Jl, *, ↓reduceIte, Nat.reduceEqDiff, Nat.reduceAdd, Nat.reduceLT, Nat.reduceMul]
    rfl
  · obtain ⟨o', h', rfl⟩ := mi h
    try simp only [↓Da, Ua, J28, Jl, *, ↓reduceIte, Nat.reduceEqDiff, Nat.reduceAdd, Nat.reduceLT, Nat.reduceMul]
    have e0 := Jg4 p (w1 := w1) h'
    exact e0
def Jbq (x3 : Int) (s : Int × T_pagemenddraw_Codes × (List Int)) : Option ((List UInt8) × T_pagemenddraw_Codes) :=
  JK (fun s => J2Y x3 s.1 s.2.1 s.2.2) s
theorem Jed {x3 : Int} {w1 : Bool} {s : Int × T_pagemenddraw_Codes × (List Int)} {o : (List UInt8) × T_pagemenddraw_Codes} (h : Jbq x3 s = some o) :
    rk (J1 p) J15 1 [.bl 0, .sq (.keep [4] J2X)] (X (J1 p) (.lp 2 [0, 3, 4, 5] J28) ⟨[(0, .ptr 0 0), (3, .p (.i .i64 x3)), (4, .slr 1 0 (List.length s.2.2)), (5, .p (.i .i64 s.1))], [.box (List.map AV.p (J0 s.2.1)), .arr w1 1 (List.map (r_i .u8) s.2.2)]⟩) = J3y o := by
  have h0 : JK (fun s => J2Y x3 s.1 s.2.1 s.2.2) s = some o := h
  exact J10 (P := fun (s : Int × T_pagemenddraw_Codes × (List Int)) (o : (List UInt8) × T_pagemenddraw_Codes) => rk (J1 p) J15 1 [.bl 0, .sq (.keep [4] J2X)] (X (J1 p) (.lp 2 [0, 3, 4, 5] J28) ⟨[(0, .ptr 0 0), (3, .p (.i .i64 x3)), (4, .slr 1 0 (List.length s.2.2)), (5, .p (.i .i64 s.1))], [.box (List.map AV.p (J0 s.2.1)), .arr w1 1 (List.map (r_i .u8) s.2.2)]⟩) = J3y o) (fun s r hs => by rw [J0Z]; exact Jbt p hs) (fun s s1 r hs ih => by rw [J0Z]; exact (Jbt p hs).trans ih) h0
def J3H (x3 : Int) (b0 : T_pagemenddraw_Codes) : Option ((List UInt8) × T_pagemenddraw_Codes) :=
  Option.bind (mkS 1 0 x3 0) fun m1 =>
  Jbq x3 (0, b0, m1)
theorem Jbw {x3 : Int} {b0 : T_pagemenddraw_Codes} {o : (List UInt8) × T_pagemenddraw_Codes} (h : J3H x3 b0 = some o) :
    rk (J1 p) J15 1 [] (X (J1 p) J9d ⟨[(0, .ptr 0 0), (3, .p (.i .i64 x3))], [.box (List.map AV.p (J0 b0))]⟩) = J3y o := by
  unfold J3H at h
  obtain ⟨m1, h2, h⟩ := bi h
  have f3 : (0 ≤ (0 : Int) ∧ (0 : Int) ≤ x3 ∧ ((1 : Nat) : Int) * x3 ≤ 281474976710656 ∧ (x3 : Int) ≤ 281474976710656) = True := eq_true (J87 h2).1
  have f4 : List.replicate (Int.toNat 0) ((r_i .u8) 0) = List.map (r_i .u8) m1 := by rw [(J87 h2).2, List.map_replicate]
  try simp only [Nf] at f4
  have g5 : List.length m1 = Int.toNat 0 := by rw [(J87 h2).2, List.length_replicate]
  try simp only [↓Da, Ua, J9d, *, ↓reduceIte, Nat.reduceEqDiff, Nat.reduceAdd, Nat.reduceLT, Nat.reduceMul]
  have e0 := Jed p (w1 := true) h
  try simp only [g5] at e0
  exact e0
def J4R (b0 : T_pagemenddraw_Codes) : Option ((List UInt8) × T_pagemenddraw_Codes) :=
  Option.bind (Jv b0 5) fun r1 =>
  Option.bind (Jv r1.2 6) fun r4 =>
  if ((r4.1 : Int) == 0) then
    Option.bind (Jv r4.2 14) fun r8 =>
    J3H r8.1 r8.2
  else
    J3H r1.1 r4.2
theorem JeD {b0 : T_pagemenddraw_Codes} {o : (List UInt8) × T_pagemenddraw_Codes} (h : J4R b0 = some o) :
    rk (J1 p) J15 1 [] (X (J1 p) J3A ⟨[(0, .ptr 0 0)], [.box (List.map AV.p (J0 b0))]⟩) = J3y o := by
  unfold J4R at h
  obtain ⟨r1, h2, h⟩ := bi h
  have f3 : ∀ ws new s, JP ws s [0] [List.map AV.p (J0 b0)] → (Jq (AF (J1 p)) Jc ([.ptr 0 0, .p (.i .i64 5)], ws) 0 new).run s = some ⟨.p (.i .i64 r1.1), ws ++ [(0, .box (List.map AV.p (J0 r1.2)))]⟩ := JG (args' := [.ptr 0 0, .p (.i .i64 5)]) (bs := [0]) (css := [List.map AV.p (J0 b0)]) (css' := [List.map AV.p (J0 r1.2)]) rfl rfl rfl (by simp [Jo, Jb]) (JC p h2) rfl rfl (by simp [Jo, Jb])
  try simp only [Nf] at f3
  obtain ⟨r4, h5, h⟩ := bi h
  have f6 : ∀ ws new s, JP ws s [0] [List.map AV.p (J0 r1.2)] → (Jq (AF (J1 p)) Jc ([.ptr 0 0, .p (.i .i64 6)], ws) 0 new).run s = some ⟨.p (.i .i64 r4.1), ws ++ [(0, .box (List.map AV.p (J0 r4.2)))]⟩ := JG (args' := [.ptr 0 0, .p (.i .i64 6)]) (bs := [0]) (css := [List.map AV.p (J0 r1.2)]) (css' := [List.map AV.p (J0 r4.2)]) rfl rfl rfl (by simp [Jo, Jb]) (JC p h5) rfl rfl (by simp [Jo, Jb])
  try simp only [Nf] at f6
  try simp only [↓Da, Ua, J3A, Jl, *, ↓reduceIte, Nat.reduceEqDiff, Nat.reduceAdd, Nat.reduceLT, Nat.reduceMul]
  rcases J9 h with ⟨h7, h⟩ | ⟨h7, h⟩
  · have h7n : ((r4.1 : Int) != 0) = false := by rw [bne, h7]; rfl
    obtain ⟨r8, h9, h⟩ := bi h
    have f10 : ∀ ws new s, JP ws s [0] [List.map AV.p (J0 r4.2)] → (Jq (AF (J1 p)) Jc ([.ptr 0 0, .p (.i .i64 14)], ws) 0 new).run s = some ⟨.p (.i .i64 r8.1), ws ++ [(0, .box (List.map AV.p (J0 r8.2)))]⟩ := JG (args' := [.ptr 0 0, .p (.i .i64 14)]) (bs := [0]) (css := [List.map AV.p (J0 r4.2)]) (css' := [List.map AV.p (J0 r8.2)]) rfl rfl rfl (by simp [Jo, Jb]) (JC p h9) rfl rfl (by simp [Jo, Jb])
    try simp only [Nf] at f10
    try simp only [↓Da, Ua, J3A, Jl, *, ↓reduceIte, Nat.reduceEqDiff, Nat.reduceAdd, Nat.reduceLT, Nat.reduceMul]
    have e0 := Jbw p h
    exact e0
  · have h7n : ((r4.1 : Int) != 0) = true := by rw [bne, h7]; rfl
    try simp only [↓Da, Ua, J3A, Jl, *, ↓reduceIte, Nat.reduceEqDiff, Nat.reduceAdd, Nat.reduceLT, Nat.reduceMul]
    have e0 := Jbw p h
    exact e0
theorem JhM {b0 : T_pagemenddraw_Codes} {o : (List UInt8) × T_pagemenddraw_Codes} (h : J4R b0 = some o) : AF (J1 p) J4P [.ptr 0 0] [.box (List.map AV.p (J0 b0))] = J3y o :=
  (J0j (J1 p) (Ji8 p) rfl).trans (JeD p h)
def JcS  (r : Int × T_pagemenddraw_Codes) : Option Res := some (.p (.i .i64 r.1), [.box (List.map AV.p (J0 r.2))])
def J2x (b0 : T_pagemenddraw_Codes) : Option (Int × T_pagemenddraw_Codes) :=
  Option.bind (Jv b0 10) fun r1 =>
  if ((r1.1 : Int) == 0) then
    Option.bind (Jv r1.2 3) fun r5 =>
    some ((IntKind.wrap .i64 ((-1) - r5.1)), r5.2)
  else
    if ((r1.1 : Int) == 1) then
      Option.bind (Jv r1.2 16) fun r9 =>
      Option.bind (idx ([9223372036854775807, (-9223372036854775808), 1099511627776, 1099511627777, 1073741824, 1073741825, 64, 63, 16, 15, 256, 255, 4294967296, 65536, 256, 255] : List Int) r9.1) fun y12 =>
      some (y12, r9.2)
    else
      Option.bind (Jv r1.2 20) fun r15 =>
      some (r15.1, r15.2)
theorem Jfp {b0 : T_pagemenddraw_Codes} {o : Int × T_pagemenddraw_Codes} (h : J2x b0 = some o) :
    rk (J1 p) J5s 1 [] (X (J1 p) J2B ⟨[(0, .ptr 0 0)], [.box (List.map AV.p (J0 b0))]⟩) = JcS o := by
  unfold J2x at h
  obtain ⟨r1, h2, h⟩ := bi h
  have f3 : ∀ ws new s, JP ws s [0] [List.map AV.p (J0 b0)] → (Jq (AF (J1 p)) Jc ([.ptr 0 0, .p (.i .i64 10)], ws) 0 new).run s = some ⟨.p (.i .i64 r1.1), ws ++ [(0, .box (List.map AV.p (J0 r1.2)))]⟩ := JG (args' := [.ptr 0 0, .p (.i .i64 10)]) (bs := [0]) (css := [List.map AV.p (J0 b0)]) (css' := [List.map AV.p (J0 r1.2)]) rfl rfl rfl (by simp [Jo, Jb]) (JC p h2) rfl rfl (by simp [Jo, Jb])
  try simp only [Nf] at f3
  try simp only [↓Da, Ua, J2B, Jl, *, ↓reduceIte, Nat.reduceEqDiff, Nat.reduceAdd, Nat.reduceLT, Nat.reduceMul]
  rcases J9 h with ⟨h4, h⟩ | ⟨h4, h⟩
  · have h4n : ((r1.1 : Int) != 0) = false := by rw [bne, h4]; rfl
    obtain ⟨r5, h6, h⟩ := bi h
    have f7 : ∀ ws new s, JP ws s [0] [List.map AV.p (J0 r1.2)] → (Jq (AF (J1 p)) Jc ([.ptr 0 0, .p (.i .i64 3)], ws) 0 new).run s = some ⟨.p (.i .i64 r5.1), ws ++ [(0, .box (List.map AV.p (J0 r5.2)))]⟩ := JG (args' := [.ptr 0 0, .p (.i .i64 3)]) (bs := [0]) (css := [List.map AV.p (J0 r1.2)]) (css' := [List.map AV.p (J0 r5.2)]) rfl rfl rfl (by simp [Jo, Jb]) (JC p h6) rfl rfl (by simp [Jo, Jb])
    try simp only [Nf] at f7
    obtain rfl := sj h
    try simp only [↓Da, Ua, J2B, Jl, JaH, *, ↓reduceIte, Nat.reduceEqDiff, Nat.reduceAdd, Nat.reduceLT, Nat.reduceMul]
    rfl
  · have h4n : ((r1.1 : Int) != 0) = true := by rw [bne, h4]; rfl
    try simp only [↓Da, Ua, J2B, Jl, *, ↓reduceIte, Nat.reduceEqDiff, Nat.reduceAdd, Nat.reduceLT, Nat.reduceMul]
    rcases J9 h with ⟨h8, h⟩ | ⟨h8, h⟩
    · have h8n : ((r1.1 : Int) != 1) = false := by rw [bne, h8]; rfl
      obtain ⟨r9, h10, h⟩ := bi h
      have f11 : ∀ ws new s, JP ws s [0] [List.map AV.p (J0 r1.2)] → (Jq (AF (J1 p)) Jc ([.ptr 0 0, .p (.i .i64 16)], ws) 0 new).run s = some ⟨.p (.i .i64 r9.1), ws ++ [(0, .box (List.map AV.p (J0 r9.2)))]⟩ := JG (args' := [.ptr 0 0, .p (.i .i64 16)]) (bs := [0]) (css := [List.map AV.p (J0 r1.2)]) (css' := [List.map AV.p (J0 r9.2)]) rfl rfl rfl (by simp [Jo, Jb]) (JC p h10) rfl rfl (by simp [Jo, Jb])
      try simp only [Nf] at f11
      obtain ⟨y12, h13, h⟩ := bi h
      have f14 := J5J (r := (r_i .i64)) h13
      try simp only [Nf] at f14
      obtain rfl := sj h
      try simp only [↓Da, Ua, J2B, Jl, JaH, *, ↓reduceIte, Nat.reduceEqDiff, Nat.reduceAdd, Nat.reduceLT, Nat.reduceMul]
      rfl
    · have h8n : ((r1.1 : Int) != 1) = true := by rw [bne, h8]; rfl
      obtain ⟨r15, h16, h⟩ := bi h
      have f17 : ∀ ws new s, JP ws s [0] [List.map AV.p (J0 r1.2)] → (Jq (AF (J1 p)) Jc ([.ptr 0 0, .p (.i .i64 20)], ws) 0 new).run s = some ⟨.p (.i .i64 r15.1), ws ++ [(0, .box (List.map AV.p (J0 r15.2)))]⟩ := JG (args' := [.ptr 0 0, .p (.i .i64 20)]) (bs := [0]) (css := [List.map AV.p (J0 r1.2)]) (css' := [List.map AV.p (J0 r15.2)]) rfl rfl rfl (by simp [Jo, Jb]) (JC p h16) rfl rfl (by simp [Jo, Jb])
      try simp only [Nf] at f17
      obtain rfl := sj h
      try simp only [↓Da, Ua, J2B, Jl, JaH, *, ↓reduceIte, Nat.reduceEqDiff, Nat.reduceAdd, Nat.reduceLT, Nat.reduceMul]
      rfl
theorem JaB {b0 : T_pagemenddraw_Codes} {o : Int × T_pagemenddraw_Codes} (h : J2x b0 = some o) : AF (J1 p) J24 [.ptr 0 0] [.box (List.map AV.p (J0 b0))] = JcS o :=
  (J0j (J1 p) (JiH p) rfl).trans (Jfp p h)
def JiA (r : List UInt8) : Option Res := some (.p (.s r), [])
def J6x (x0 : List UInt8) (x1 : Int) (x2 : Int) : Option (List UInt8) := Jl8 x0 x1 x2
theorem Jp9 {x0 : List UInt8} {x1 : Int} {x2 : Int} {o : List UInt8} (h : J6x x0 x1 x2 = some o) : AF (J1 p) J2r [.p (.s x0), .p (.i .i64 x1), .p (.i .i64 x2)] [] = JiA o := by
  rw [Jq2 (JoX p)]
  have h' : Jl8 x0 x1 x2 = some o := h
  simp only [Jon, h', Option.map_some, JiA]
theorem Jak {x0 : List UInt8} {x1 : Int} {x2 : Int} {o : List UInt8} (h : J6x x0 x1 x2 = some o) : ∀ ws new st, (Jq (AF (J1 p)) J2r ([.p (.s x0), .p (.i .i64 x1), .p (.i .i64 x2)], ws) 0 new).run st = some ⟨.p (.s o), ws⟩ := Jz rfl (Jp9 p h) rfl
def J92  (r : (List UInt8)) : Option Res := some (.p (.s r), [])
def Jnf (x1 : Int) (x2 : Int) (o : ((List UInt8) × Int) ⊕ ((List UInt8))) : Option Res := match o with
  | .inl s => rk (J1 p) J3P 0 [.bl 0, .sq (.keep [0] J6a)] (X (J1 p) (.lp 0 [0, 1, 2, 7] J54) ⟨[(0, .p (.s s.1)), (1, .p (.i .i64 x1)), (2, .p (.i .i64 x2)), (7, .p (.i .i64 s.2))], []⟩)
  | .inr o => J92 o
def Jau (x0 : List UInt8) : Option ((List UInt8)) :=
  some x0
theorem JmA {x0 : List UInt8} {o : (List UInt8)} (h : Jau x0 = some o) :
    rk (J1 p) J3P 0 [] (X (J1 p) J6a ⟨[(0, .p (.s x0))], []⟩) = J92 o := by
  unfold Jau at h
  obtain rfl := sj h
  try simp only [↓Da, Ua, J6a, JdS, ↓reduceIte, Nat.reduceEqDiff, Nat.reduceAdd, Nat.reduceLT, Nat.reduceMul]
  rfl
def J5Z (x1 : Int) (x2 : Int) (x0 : List UInt8) (x7 : Int) : Option ((((List UInt8) × Int) ⊕ ((List UInt8)))) :=
  if (decide (x7 < x2)) then
    Option.bind (Jaz .u64 (IntKind.wrap .u64 x1) (IntKind.wrap .u64 (IntKind.wrap .i64 (8 * x7)))) fun q2 =>
    Option.bind (J4a x0 (toStr ([(IntKind.wrap .u8 q2)] : List Int))) fun s5 =>
    some (.inl (s5, (IntKind.wrap .i64 (x7 + 1))))
  else
    Option.map (fun o => .inr o) (Jau x0)
theorem JfX {x1 : Int} {x2 : Int} {x0 : List UInt8} {x7 : Int} {o : (((List UInt8) × Int) ⊕ ((List UInt8)))} (h : J5Z x1 x2 x0 x7 = some o) :
    rk (J1 p) J3P 0 [.lo 0 [0, 1, 2, 7] J54, .bl 0, .sq (.keep [0] J6a)] (X (J1 p) J54 ⟨[(0, .p (.s x0)), (1, .p (.i .i64 x1)), (2, .p (.i .i64 x2)), (7, .p (.i .i64 x7))], []⟩) = (Jnf p x1 x2) o := by
  unfold J5Z at h
  rcases J9 h with ⟨h1, h⟩ | ⟨h1, h⟩
  · obtain ⟨q2, h3, h⟩ := bi h
    have f4 : ∀ env sto new, (cvR .toStr (.p (.sl 1 (List.map (r_i .u8) ([(IntKind.wrap .u8 q2)] : List Int)))) new).run ⟨env, sto⟩ = some ⟨.p (.s (toStr ([(IntKind.wrap .u8 q2)] : List Int))), []⟩ := fun env sto new => Jox env sto _ new
    try simp only [Nf] at f4
    obtain ⟨s5, h6, h⟩ := bi h
    obtain rfl := sj h
    try simp only [↓Da, Ua, J54, *, ↓reduceIte, Nat.reduceEqDiff, Nat.reduceAdd, Nat.reduceLT, Nat.reduceMul]
    rfl
  · obtain ⟨o', h', rfl⟩ := mi h
    try simp only [↓Da, Ua, J54, *, ↓reduceIte, Nat.reduceEqDiff, Nat.reduceAdd, Nat.reduceLT, Nat.reduceMul]
    have e0 := JmA p h'
    exact e0
def JfM (x1 : Int) (x2 : Int) (s : (List UInt8) × Int) : Option ((List UInt8)) :=
  JK (fun s => J5Z x1 x2 s.1 s.2) s
theorem JkB {x1 : Int} {x2 : Int} {s : (List UInt8) × Int} {o : (List UInt8)} (h : JfM x1 x2 s = some o) :
    rk (J1 p) J3P 0 [.bl 0, .sq (.keep [0] J6a)] (X (J1 p) (.lp 0 [0, 1, 2, 7] J54) ⟨[(0, .p (.s s.1)), (1, .p (.i .i64 x1)), (2, .p (.i .i64 x2)), (7, .p (.i .i64 s.2))], []⟩) = J92 o := by
  have h0 : JK (fun s => J5Z x1 x2 s.1 s.2) s = some o := h
  exact J10 (P := fun (s : (List UInt8) × Int) (o : (List UInt8)) => rk (J1 p) J3P 0 [.bl 0, .sq (.keep [0] J6a)] (X (J1 p) (.lp 0 [0, 1, 2, 7] J54) ⟨[(0, .p (.s s.1)), (1, .p (.i .i64 x1)), (2, .p (.i .i64 x2)), (7, .p (.i .i64 s.2))], []⟩) = J92 o) (fun s r hs => by rw [J0Z]; exact JfX p hs) (fun s s1 r hs ih => by rw [J0Z]; exact (JfX p hs).trans ih) h0
def J1K (x0 : List UInt8) (x1 : Int) (x2 : Int) : Option ((List UInt8)) :=
  if (decide (x2 < 1)) then
    some x0
  else
    if (decide (x2 > 8)) then
      some x0
    else
      JfM x1 x2 (x0, 0)
theorem Jk4 {x0 : List UInt8} {x1 : Int} {x2 : Int} {o : (List UInt8)} (h : J1K x0 x1 x2 = some o) :
    rk (J1 p) J3P 0 [] (X (J1 p) J6r ⟨[(0, .p (.s x0)), (1, .p (.i .i64 x1)), (2, .p (.i .i64 x2))], []⟩) = J92 o := by
  unfold J1K at h
  rcases J9 h with ⟨h1, h⟩ | ⟨h1, h⟩
  · obtain rfl := sj h
    try simp only [↓Da, Ua, J6r, JdS, *, ↓reduceIte, Nat.reduceEqDiff, Nat.reduceAdd, Nat.reduceLT, Nat.reduceMul]
    rfl
  · try simp only [↓Da, Ua, J6r, *, ↓reduceIte, Nat.reduceEqDiff, Nat.reduceAdd, Nat.reduceLT, Nat.reduceMul]
    rcases J9 h with ⟨h2, h⟩ | ⟨h2, h⟩
    · obtain rfl := sj h
      try simp only [↓Da, Ua, J6r, JdS, *, ↓reduceIte, Nat.reduceEqDiff, Nat.reduceAdd, Nat.reduceLT, Nat.reduceMul]
      rfl
    · try simp only [↓Da, Ua, J6r, *, ↓reduceIte, Nat.reduceEqDiff, Nat.reduceAdd, Nat.reduceLT, Nat.reduceMul]
      have e0 := JkB p h
      exact e0
theorem JoV {x0 : List UInt8} {x1 : Int} {x2 : Int} {o : (List UInt8)} (h : J1K x0 x1 x2 = some o) : AF (J1 p) J4u [.p (.s x0), .p (.i .i64 x1), .p (.i .i64 x2)] [] = J92 o :=
  (J0j (J1 p) (Jpv p) rfl).trans (Jk4 p h)
theorem Jaf {x0 : List UInt8} {x1 : Int} {x2 : Int} {o : (List UInt8)} (h : J1K x0 x1 x2 = some o) : ∀ ws new st, (Jq (AF (J1 p)) J4u ([.p (.s x0), .p (.i .i64 x1), .p (.i .i64 x2)], ws) 0 new).run st = some ⟨.p (.s o), ws⟩ := Jz rfl (JoV p h) rfl
def J97  (r : Int × Int) : Option Res := some (.tup [.p (.i .i64 r.1), .p (.i .i64 r.2)], [])
def Jml (x0 : List UInt8) (x1 : Int) (x34 : Int) (o : (Int × Int) ⊕ (Int × Int)) : Option Res := match o with
  | .inl s => rk (J1 p) J3V 0 [.bl 1, .sq (.keep [8] J5V)] (X (J1 p) (.lp 0 [0, 1, 8, 34, 35] J4W) ⟨[(0, .p (.s x0)), (1, .p (.i .i64 x1)), (8, .p (.i .u64 s.1)), (34, .p (.i .i64 x34)), (35, .p (.i .i64 s.2))], []⟩)
  | .inr o => J97 o
def J67 (x8 : Int) : Option (Int × Int) :=
  some ((IntKind.wrap .i64 x8), 0)
theorem Jn3 {x8 : Int} {o : Int × Int} (h : J67 x8 = some o) :
    rk (J1 p) J3V 0 [] (X (J1 p) J5V ⟨[(8, .p (.i .u64 x8))], []⟩) = J97 o := by
  unfold J67 at h
  obtain rfl := sj h
  try simp only [↓Da, Ua, J5V, J96, ↓reduceIte, Nat.reduceEqDiff, Nat.reduceAdd, Nat.reduceLT, Nat.reduceMul]
  rfl
def J0C (x0 : List UInt8) (x1 : Int) (x34 : Int) (x8 : Int) (x35 : Int) : Option (((Int × Int) ⊕ (Int × Int))) :=
  if (decide (x35 < x34)) then
    Option.bind (Jd6 x0 (IntKind.wrap .i64 (x1 + x35))) fun c2 =>
    Option.bind (JdY .u64 (IntKind.wrap .u64 c2) (IntKind.wrap .i64 (8 * x35))) fun q4 =>
    some (.inl ((orI .u64 x8 q4), (IntKind.wrap .i64 (x35 + 1))))
  else
    Option.map (fun o => .inr o) (J67 x8)
theorem JfL {x0 : List UInt8} {x1 : Int} {x34 : Int} {x8 : Int} {x35 : Int} {o : ((Int × Int) ⊕ (Int × Int))} (h : J0C x0 x1 x34 x8 x35 = some o) :
    rk (J1 p) J3V 0 [.lo 0 [0, 1, 8, 34, 35] J4W, .bl 1, .sq (.keep [8] J5V)] (X (J1 p) J4W ⟨[(0, .p (.s x0)), (1, .p (.i .i64 x1)), (8, .p (.i .u64 x8)), (34, .p (.i .i64 x34)), (35, .p (.i .i64 x35))], []⟩) = (Jml p x0 x1 x34) o := by
  unfold J0C at h
  rcases J9 h with ⟨h1, h⟩ | ⟨h1, h⟩
  · obtain ⟨c2, h3, h⟩ := bi h
    obtain ⟨q4, h5, h⟩ := bi h
    obtain rfl := sj h
    try simp only [↓Da, Ua, J4W, *, ↓reduceIte, Nat.reduceEqDiff, Nat.reduceAdd, Nat.reduceLT, Nat.reduceMul]
    rfl
  · obtain ⟨o', h', rfl⟩ := mi h
    try simp only [↓Da, Ua, J4W, *, ↓reduceIte, Nat.reduceEqDiff, Nat.reduceAdd, Nat.reduceLT, Nat.reduceMul]
    have e0 := Jn3 p h'
    exact e0
def JbU (x0 : List UInt8) (x1 : Int) (x34 : Int) (s : Int × Int) : Option (Int × Int) :=
  JK (fun s => J0C x0 x1 x34 s.1 s.2) s
theorem Jkf {x0 : List UInt8} {x1 : Int} {x34 : Int} {s : Int × Int} {o : Int × Int} (h : JbU x0 x1 x34 s = some o) :
    rk (J1 p) J3V 0 [.bl 1, .sq (.keep [8] J5V)] (X (J1 p) (.lp 0 [0, 1, 8, 34, 35] J4W) ⟨[(0, .p (.s x0)), (1, .p (.i .i64 x1)), (8, .p (.i .u64 s.1)), (34, .p (.i .i64 x34)), (35, .p (.i .i64 s.2))], []⟩) = J97 o := by
  have h0 : JK (fun s => J0C x0 x1 x34 s.1 s.2) s = some o := h
  exact J10 (P := fun (s : Int × Int) (o : Int × Int) => rk (J1 p) J3V 0 [.bl 1, .sq (.keep [8] J5V)] (X (J1 p) (.lp 0 [0, 1, 8, 34, 35] J4W) ⟨[(0, .p (.s x0)), (1, .p (.i .i64 x1)), (8, .p (.i .u64 s.1)), (34, .p (.i .i64 x34)), (35, .p (.i .i64 s.2))], []⟩) = J97 o) (fun s r hs => by rw [J0Z]; exact JfL p hs) (fun s s1 r hs ih => by rw [J0Z]; exact (JfL p hs).trans ih) h0
def J0L (x0 : List UInt8) (x1 : Int) (x2 : Int) : Option (Int × Int) :=
  if (decide (x2 < 1)) then
    some (0, 1)
  else
    if (decide (x2 > 8)) then
      some (0, 1)
    else
      if (decide (x1 < 0)) then
        some (0, 1)
      else
        if (decide (x1 > ((List.length x0 : Nat) : Int))) then
          some (0, 5)
        else
          if (decide ((IntKind.wrap .i64 (((List.length x0 : Nat) : Int) - x1)) < x2)) then
            some (0, 5)
          else
            JbU x0 x1 x2 (0, 0)
theorem JkO {x0 : List UInt8} {x1 : Int} {x2 : Int} {o : Int × Int} (h : J0L x0 x1 x2 = some o) :
    rk (J1 p) J3V 0 [] (X (J1 p) J2n ⟨[(0, .p (.s x0)), (1, .p (.i .i64 x1)), (2, .p (.i .i64 x2))], []⟩) = J97 o := by
  unfold J0L at h
  rcases J9 h with ⟨h1, h⟩ | ⟨h1, h⟩
  · obtain rfl := sj h
    try simp only [↓Da, Ua, J2n, J96, *, ↓reduceIte, Nat.reduceEqDiff, Nat.reduceAdd, Nat.reduceLT, Nat.reduceMul]
    rfl
  · try simp only [↓Da, Ua, J2n, *, ↓reduceIte, Nat.reduceEqDiff, Nat.reduceAdd, Nat.reduceLT, Nat.reduceMul]
    rcases J9 h with ⟨h2, h⟩ | ⟨h2, h⟩
    · obtain rfl := sj h
      try simp only [↓Da, Ua, J2n, J96, *, ↓reduceIte, Nat.reduceEqDiff, Nat.reduceAdd, Nat.reduceLT, Nat.reduceMul]
      rfl
    · try simp only [↓Da, Ua, J2n, *, ↓reduceIte, Nat.reduceEqDiff, Nat.reduceAdd, Nat.reduceLT, Nat.reduceMul]
      rcases J9 h with ⟨h3, h⟩ | ⟨h3, h⟩
      · obtain rfl := sj h
        try simp only [↓Da, Ua, J2n, J96, *, ↓reduceIte, Nat.reduceEqDiff, Nat.reduceAdd, Nat.reduceLT, Nat.reduceMul]
        rfl
      · try simp only [↓Da, Ua, J2n, *, ↓reduceIte, Nat.reduceEqDiff, Nat.reduceAdd, Nat.reduceLT, Nat.reduceMul]
        rcases J9 h with ⟨h4, h⟩ | ⟨h4, h⟩
        · obtain rfl := sj h
          try simp only [↓Da, Ua, J2n, J96, *, ↓reduceIte, Nat.reduceEqDiff, Nat.reduceAdd, Nat.reduceLT, Nat.reduceMul]
          rfl
        · try simp only [↓Da, Ua, J2n, *, ↓reduceIte, Nat.reduceEqDiff, Nat.reduceAdd, Nat.reduceLT, Nat.reduceMul]
          rcases J9 h with ⟨h5, h⟩ | ⟨h5, h⟩
          · obtain rfl := sj h
            try simp only [↓Da, Ua, J2n, J96, *, ↓reduceIte, Nat.reduceEqDiff, Nat.reduceAdd, Nat.reduceLT, Nat.reduceMul]
            rfl
          · try simp only [↓Da, Ua, J2n, *, ↓reduceIte, Nat.reduceEqDiff, Nat.reduceAdd, Nat.reduceLT, Nat.reduceMul]
            have e0 := Jkf p h
            exact e0
theorem Jpu {x0 : List UInt8} {x1 : Int} {x2 : Int} {o : Int × Int} (h : J0L x0 x1 x2 = some o) : AF (J1 p) J8X [.p (.s x0), .p (.i .i64 x1), .p (.i .i64 x2)] [] = J97 o :=
  (J0j (J1 p) (Jp2 p) rfl).trans (JkO p h)
theorem Jpe {x0 : List UInt8} {x1 : Int} {x2 : Int} {o : Int × Int} (h : J0L x0 x1 x2 = some o) : ∀ ws new st, (Jq (AF (J1 p)) J8X ([.p (.s x0), .p (.i .i64 x1), .p (.i .i64 x2)], ws) 0 new).run st = some ⟨.tup [.p (.i .i64 o.1), .p (.i .i64 o.2)], ws⟩ := Jz rfl (Jpu p h) rfl
def JdZ (r : T_api_Index × Int) : Option Res := if ((r.2 : Int) == 0) = true then some (.tup [.agg [.slr 0 0 (List.length r.1.Rows)], .p (.i .i64 r.2)], [.arr true 3 (List.map Je r.1.Rows)]) else some (.tup [.data (Jj r.1), .p (.i .i64 r.2)], [])
def J7P (x0 : Int) : Option (T_api_Index × Int) :=
  if (decide (x0 < 1)) then
    some ((⟨([] : List T_api_Row)⟩ : T_api_Index), 1)
  else
    if (decide (x0 > 64)) then
      some ((⟨([] : List T_api_Row)⟩ : T_api_Index), 1)
    else
      Option.bind (mkS 24 x0 x0 (⟨0, 0, 0⟩ : T_api_Row)) fun m3 =>
      some ((⟨m3⟩ : T_api_Index), 0)
theorem Jkm {x0 : Int} {o : T_api_Index × Int} (h : J7P x0 = some o) :
    rk (J1 p) J99 0 [] (X (J1 p) J6w ⟨[(0, .p (.i .i64 x0))], []⟩) = JdZ o := by
  unfold J7P at h
  rcases J9 h with ⟨h1, h⟩ | ⟨h1, h⟩
  · obtain rfl := sj h
    try simp only [↓Da, Ua, J6w, J5, JF, JdX, *, ↓reduceIte, Nat.reduceEqDiff, Nat.reduceAdd, Nat.reduceLT, Nat.reduceMul, Nat.reduceBEq]
    rfl
  · try simp only [↓Da, Ua, J6w, J5, JF, *, ↓reduceIte, Nat.reduceEqDiff, Nat.reduceAdd, Nat.reduceLT, Nat.reduceMul, Nat.reduceBEq]
    rcases J9 h with ⟨h2, h⟩ | ⟨h2, h⟩
    · obtain rfl := sj h
      try simp only [↓Da, Ua, J6w, J5, JF, JdX, *, ↓reduceIte, Nat.reduceEqDiff, Nat.reduceAdd, Nat.reduceLT, Nat.reduceMul, Nat.reduceBEq]
      rfl
    · obtain ⟨m3, h4, h⟩ := bi h
      have f5 : (0 ≤ (x0 : Int) ∧ (x0 : Int) ≤ x0 ∧ ((24 : Nat) : Int) * x0 ≤ 281474976710656 ∧ (x0 : Int) ≤ 281474976710656) = True := eq_true (J87 h4).1
      have f6 : List.replicate (Int.toNat x0) (Je (⟨0, 0, 0⟩ : T_api_Row)) = List.map Je m3 := by rw [(J87 h4).2, List.map_replicate]
      try simp only [Nf, J5, JF] at f6
      have g7 : List.length m3 = Int.toNat x0 := by rw [(J87 h4).2, List.length_replicate]
      obtain rfl := sj h
      try simp only [↓Da, Ua, J6w, J5, JF, JdX, *, ↓reduceIte, Nat.reduceEqDiff, Nat.reduceAdd, Nat.reduceLT, Nat.reduceMul, Nat.reduceBEq]
      first | rfl | (simp only [JdZ, g7]; try rfl)
theorem Jpm {x0 : Int} {o : T_api_Index × Int} (h : J7P x0 = some o) : AF (J1 p) J8U [.p (.i .i64 x0)] [] = JdZ o :=
  (J0j (J1 p) (Jpo p) rfl).trans (Jkm p h)
theorem Jmp {x0 : Int} {o : T_api_Index × Int} (h : J7P x0 = some o) (hc : ((o.2 : Int) == 0) = true) : ∀ ws new st, (J3T (AF (J1 p)) J8U ([.p (.i .i64 x0)], ws) 1 new).run st = some ⟨.tup [.agg [.slr new 0 (List.length o.1.Rows)], .p (.i .i64 o.2)], ws ++ [(new, .arr true 3 (List.map Je o.1.Rows))]⟩ :=
  fun ws new st => Jr9 rfl ((Jpm p h).trans (if_pos hc)) (fun _ => rfl) (fun _ => rfl) (by simp) ws new st
def Jch  (r : J8 × T_pagemenddraw_Codes) : Option Res := some (.data (Jh r.1), [.box (List.map AV.p (J0 r.2))])
def J4K (b0 : T_pagemenddraw_Codes) : Option (J8 × T_pagemenddraw_Codes) :=
  Option.bind (Jv b0 3) fun r1 =>
  if ((r1.1 : Int) == 0) then
    some ((⟨false, ([] : List UInt8)⟩ : J8), r1.2)
  else
    Option.bind (J4R r1.2) fun r5 =>
    Option.bind (J34 r5.1 none (some (Jjh ((List.length r5.1 : Nat) : Int) 12))) fun m8 =>
    some ((⟨true, m8⟩ : J8), r5.2)
theorem JeH {b0 : T_pagemenddraw_Codes} {o : J8 × T_pagemenddraw_Codes} (h : J4K b0 = some o) :
    rk (J1 p) J4T 1 [] (X (J1 p) J3s ⟨[(0, .ptr 0 0)], [.box (List.map AV.p (J0 b0))]⟩) = Jch o := by
  unfold J4K at h
  obtain ⟨r1, h2, h⟩ := bi h
  have f3 : ∀ ws new s, JP ws s [0] [List.map AV.p (J0 b0)] → (Jq (AF (J1 p)) Jc ([.ptr 0 0, .p (.i .i64 3)], ws) 0 new).run s = some ⟨.p (.i .i64 r1.1), ws ++ [(0, .box (List.map AV.p (J0 r1.2)))]⟩ := JG (args' := [.ptr 0 0, .p (.i .i64 3)]) (bs := [0]) (css := [List.map AV.p (J0 b0)]) (css' := [List.map AV.p (J0 r1.2)]) rfl rfl rfl (by simp [Jo, Jb]) (JC p h2) rfl rfl (by simp [Jo, Jb])
  try simp only [Nf] at f3
  try simp only [↓Da, Ua, J3s, J3, Jl, *, ↓reduceIte, Nat.reduceEqDiff, Nat.reduceAdd, Nat.reduceLT, Nat.reduceMul]
  rcases J9 h with ⟨h4, h⟩ | ⟨h4, h⟩
  · have h4n : ((r1.1 : Int) != 0) = false := by rw [bne, h4]; rfl
    obtain rfl := sj h
    try simp only [↓Da, Ua, J3s, J3, Jl, Jcb, *, ↓reduceIte, Nat.reduceEqDiff, Nat.reduceAdd, Nat.reduceLT, Nat.reduceMul]
    rfl
  · have h4n : ((r1.1 : Int) != 0) = true := by rw [bne, h4]; rfl
    obtain ⟨r5, h6, h⟩ := bi h
    have f7 : ∀ ws new s, JP ws s [0] [List.map AV.p (J0 r1.2)] → (Jq (AF (J1 p)) J4P ([.ptr 0 0], ws) 0 new).run s = some ⟨.p (.s r5.1), ws ++ [(0, .box (List.map AV.p (J0 r5.2)))]⟩ := JG (args' := [.ptr 0 0]) (bs := [0]) (css := [List.map AV.p (J0 r1.2)]) (css' := [List.map AV.p (J0 r5.2)]) rfl rfl rfl (by simp [Jo, Jb]) (JhM p h6) rfl rfl (by simp [Jo, Jb])
    try simp only [Nf] at f7
    obtain ⟨m8, h9, h⟩ := bi h
    have f10 : J36 (.p (.s r5.1)) none (some (.p (.i .i64 (Jjh ((List.length r5.1 : Nat) : Int) 12)))) = some (.p (.s m8)) := J4c (k := .i64) (lo := none) (hi := (some (Jjh ((List.length r5.1 : Nat) : Int) 12))) h9
    try simp only [Nf] at f10
    obtain rfl := sj h
    try simp only [↓Da, Ua, J3s, J3, Jl, Jcb, *, ↓reduceIte, Nat.reduceEqDiff, Nat.reduceAdd, Nat.reduceLT, Nat.reduceMul]
    rfl
theorem Ji6 {b0 : T_pagemenddraw_Codes} {o : J8 × T_pagemenddraw_Codes} (h : J4K b0 = some o) : AF (J1 p) J4M [.ptr 0 0] [.box (List.map AV.p (J0 b0))] = Jch o :=
  (J0j (J1 p) (JhF p) rfl).trans (JeH p h)
def JfJ  (r : (List UInt8)) : Option Res := some (.p (.s r), [])
def J2I (x0 : Int) : Option ((List UInt8)) :=
  Option.bind (mkS 1 x0 x0 0) fun m1 =>
  some (toStr m1)
theorem Jif {x0 : Int} {o : (List UInt8)} (h : J2I x0 = some o) :
    rk (J1 p) J74 0 [] (X (J1 p) J8L ⟨[(0, .p (.i .i64 x0))], []⟩) = JfJ o := by
  unfold J2I at h
  obtain ⟨m1, h2, h⟩ := bi h
  have f3 : (0 ≤ (x0 : Int) ∧ (x0 : Int) ≤ x0 ∧ ((1 : Nat) : Int) * x0 ≤ 281474976710656 ∧ (x0 : Int) ≤ 281474976710656) = True := eq_true (J87 h2).1
  have f4 : List.replicate (Int.toNat x0) ((r_i .u8) 0) = List.map (r_i .u8) m1 := by rw [(J87 h2).2, List.map_replicate]
  try simp only [Nf] at f4
  obtain rfl := sj h
  try simp only [↓Da, Ua, J8L, Jmz, *, ↓reduceIte, Nat.reduceEqDiff, Nat.reduceAdd, Nat.reduceLT, Nat.reduceMul]
  rfl
theorem JmI {x0 : Int} {o : (List UInt8)} (h : J2I x0 = some o) : AF (J1 p) J43 [.p (.i .i64 x0)] [] = JfJ o :=
  (J0j (J1 p) (Jmq p) rfl).trans (Jif p h)
theorem Jc5 {x0 : Int} {o : (List UInt8)} (h : J2I x0 = some o) : ∀ ws new st, (Jq (AF (J1 p)) J43 ([.p (.i .i64 x0)], ws) 0 new).run st = some ⟨.p (.s o), ws⟩ := Jz rfl (JmI p h) rfl
def J91  (r : Int) : Option Res := some (.p (.i .u32 r), [])
def J8S (x0 : List UInt8) (o : (Int × Int) ⊕ (Int)) : Option Res := match o with
  | .inl s => rk (J1 p) J1w 0 [.bl 0, .sq (.keep [3] J1R)] (X (J1 p) (.lp 0 [0, 3, 4] J1D) ⟨[(0, .p (.s x0)), (3, .p (.i .u32 s.1)), (4, .p (.i .i64 s.2))], []⟩)
  | .inr o => J91 o
def JfD (x0 : List UInt8) (x4 : Int) (o : (Int × Int) ⊕ (((Int × Int) ⊕ (Int)))) : Option Res := match o with
  | .inl s => rk (J1 p) J1w 0 [.bl 2, .bl 1, .sq (.keep [0, 3, 4] J4Z), .lo 0 [0, 3, 4] J1D, .bl 0, .sq (.keep [3] J1R)] (X (J1 p) (.lp 0 [0, 3, 4, 5] J2G) ⟨[(0, .p (.s x0)), (3, .p (.i .u32 s.1)), (4, .p (.i .i64 x4)), (5, .p (.i .i64 s.2))], []⟩)
  | .inr o => (J8S p x0) o
def J8K (x0 : List UInt8) (x3 : Int) (x4 : Int) (x5 : Int) : Option (((Int × Int) ⊕ (((Int × Int) ⊕ (Int))))) :=
  some (.inl (x3, (IntKind.wrap .i64 (x5 + 1))))
theorem JfR {x0 : List UInt8} {x3 : Int} {x4 : Int} {x5 : Int} {o : ((Int × Int) ⊕ (((Int × Int) ⊕ (Int))))} (h : J8K x0 x3 x4 x5 = some o) :
    rk (J1 p) J1w 0 [.lo 0 [0, 3, 4, 5] J2G, .bl 2, .bl 1, .sq (.keep [0, 3, 4] J4Z), .lo 0 [0, 3, 4] J1D, .bl 0, .sq (.keep [3] J1R)] (X (J1 p) Jc3 ⟨[(0, .p (.s x0)), (3, .p (.i .u32 x3)), (4, .p (.i .i64 x4)), (5, .p (.i .i64 x5))], []⟩) = (JfD p x0 x4) o := by
  unfold J8K at h
  obtain rfl := sj h
  try simp only [↓Da, Ua, Jc3, ↓reduceIte, Nat.reduceEqDiff, Nat.reduceAdd, Nat.reduceLT, Nat.reduceMul]
  rfl
def Jaq (x0 : List UInt8) (x3 : Int) (x4 : Int) : Option (((Int × Int) ⊕ (Int))) :=
  some (.inl (x3, (IntKind.wrap .i64 (x4 + 1))))
theorem Jn2 {x0 : List UInt8} {x3 : Int} {x4 : Int} {o : ((Int × Int) ⊕ (Int))} (h : Jaq x0 x3 x4 = some o) :
    rk (J1 p) J1w 0 [.lo 0 [0, 3, 4] J1D, .bl 0, .sq (.keep [3] J1R)] (X (J1 p) J4Z ⟨[(0, .p (.s x0)), (3, .p (.i .u32 x3)), (4, .p (.i .i64 x4))], []⟩) = (J8S p x0) o := by
  unfold Jaq at h
  obtain rfl := sj h
  try simp only [↓Da, Ua, J4Z, ↓reduceIte, Nat.reduceEqDiff, Nat.reduceAdd, Nat.reduceLT, Nat.reduceMul]
  rfl
def J5R (x0 : List UInt8) (x4 : Int) (x3 : Int) (x5 : Int) : Option (((Int × Int) ⊕ (((Int × Int) ⊕ (Int))))) :=
  if (decide (x5 < 8)) then
    if (((J5z .u32 x3 1) : Int) == 1) then
      Option.bind (Jaz .u32 x3 1) fun q3 =>
      J8K x0 (J5S .u32 q3 2197175160) x4 x5
    else
      Option.bind (Jaz .u32 x3 1) fun q5 =>
      J8K x0 q5 x4 x5
  else
    Option.map (fun o => .inr o) (Jaq x0 x3 x4)
theorem JfK {x0 : List UInt8} {x4 : Int} {x3 : Int} {x5 : Int} {o : ((Int × Int) ⊕ (((Int × Int) ⊕ (Int))))} (h : J5R x0 x4 x3 x5 = some o) :
    rk (J1 p) J1w 0 [.lo 0 [0, 3, 4, 5] J2G, .bl 2, .bl 1, .sq (.keep [0, 3, 4] J4Z), .lo 0 [0, 3, 4] J1D, .bl 0, .sq (.keep [3] J1R)] (X (J1 p) J2G ⟨[(0, .p (.s x0)), (3, .p (.i .u32 x3)), (4, .p (.i .i64 x4)), (5, .p (.i .i64 x5))], []⟩) = (JfD p x0 x4) o := by
  unfold J5R at h
  rcases J9 h with ⟨h1, h⟩ | ⟨h1, h⟩
  · try simp only [↓Da, Ua, J2G, *, ↓reduceIte, Nat.reduceEqDiff, Nat.reduceAdd, Nat.reduceLT, Nat.reduceMul]
    rcases J9 h with ⟨h2, h⟩ | ⟨h2, h⟩
    · have h2n : (((J5z .u32 x3 1) : Int) != 1) = false := by rw [bne, h2]; rfl
      obtain ⟨q3, h4, h⟩ := bi h
      try simp only [↓Da, Ua, J2G, *, ↓reduceIte, Nat.reduceEqDiff, Nat.reduceAdd, Nat.reduceLT, Nat.reduceMul]
      have e0 := JfR p h
      exact e0
    · have h2n : (((J5z .u32 x3 1) : Int) != 1) = true := by rw [bne, h2]; rfl
      obtain ⟨q5, h6, h⟩ := bi h
      try simp only [↓Da, Ua, J2G, *, ↓reduceIte, Nat.reduceEqDiff, Nat.reduceAdd, Nat.reduceLT, Nat.reduceMul]
      have e0 := JfR p h
      exact e0
  · obtain ⟨o', h', rfl⟩ := mi h
    try simp only [↓Da, Ua, J2G, *, ↓reduceIte, Nat.reduceEqDiff, Nat.reduceAdd, Nat.reduceLT, Nat.reduceMul]
    have e0 := Jn2 p h'
    exact e0
def JfV (x0 : List UInt8) (x4 : Int) (s : Int × Int) : Option (((Int × Int) ⊕ (Int))) :=
  JK (fun s => J5R x0 x4 s.1 s.2) s
theorem Jk2 {x0 : List UInt8} {x4 : Int} {s : Int × Int} {o : ((Int × Int) ⊕ (Int))} (h : JfV x0 x4 s = some o) :
    rk (J1 p) J1w 0 [.bl 2, .bl 1, .sq (.keep [0, 3, 4] J4Z), .lo 0 [0, 3, 4] J1D, .bl 0, .sq (.keep [3] J1R)] (X (J1 p) (.lp 0 [0, 3, 4, 5] J2G) ⟨[(0, .p (.s x0)), (3, .p (.i .u32 s.1)), (4, .p (.i .i64 x4)), (5, .p (.i .i64 s.2))], []⟩) = (J8S p x0) o := by
  have h0 : JK (fun s => J5R x0 x4 s.1 s.2) s = some o := h
  exact J10 (P := fun (s : Int × Int) (o : ((Int × Int) ⊕ (Int))) => rk (J1 p) J1w 0 [.bl 2, .bl 1, .sq (.keep [0, 3, 4] J4Z), .lo 0 [0, 3, 4] J1D, .bl 0, .sq (.keep [3] J1R)] (X (J1 p) (.lp 0 [0, 3, 4, 5] J2G) ⟨[(0, .p (.s x0)), (3, .p (.i .u32 s.1)), (4, .p (.i .i64 x4)), (5, .p (.i .i64 s.2))], []⟩) = (J8S p x0) o) (fun s r hs => by rw [J0Z]; exact JfK p hs) (fun s s1 r hs ih => by rw [J0Z]; exact (JfK p hs).trans ih) h0
def Jar (x3 : Int) : Option (Int) :=
  some (JqX .u32 x3)
theorem Jmh {x3 : Int} {o : Int} (h : Jar x3 = some o) :
    rk (J1 p) J1w 0 [] (X (J1 p) J1R ⟨[(3, .p (.i .u32 x3))], []⟩) = J91 o := by
  unfold Jar at h
  obtain rfl := sj h
  try simp only [↓Da, Ua, J1R, JpH, ↓reduceIte, Nat.reduceEqDiff, Nat.reduceAdd, Nat.reduceLT, Nat.reduceMul]
  rfl
def J63 (x0 : List UInt8) (x3 : Int) (x4 : Int) : Option (((Int × Int) ⊕ (Int))) :=
  if (decide (x4 < ((List.length x0 : Nat) : Int))) then
    Option.bind (Jd6 x0 x4) fun c2 =>
    JfV x0 x4 ((J5S .u32 x3 (IntKind.wrap .u32 c2)), 0)
  else
    Option.map (fun o => .inr o) (Jar x3)
theorem JfF {x0 : List UInt8} {x3 : Int} {x4 : Int} {o : ((Int × Int) ⊕ (Int))} (h : J63 x0 x3 x4 = some o) :
    rk (J1 p) J1w 0 [.lo 0 [0, 3, 4] J1D, .bl 0, .sq (.keep [3] J1R)] (X (J1 p) J1D ⟨[(0, .p (.s x0)), (3, .p (.i .u32 x3)), (4, .p (.i .i64 x4))], []⟩) = (J8S p x0) o := by
  unfold J63 at h
  rcases J9 h with ⟨h1, h⟩ | ⟨h1, h⟩
  · obtain ⟨c2, h3, h⟩ := bi h
    try simp only [↓Da, Ua, J1D, *, ↓reduceIte, Nat.reduceEqDiff, Nat.reduceAdd, Nat.reduceLT, Nat.reduceMul]
    have e0 := Jk2 p h
    exact e0
  · obtain ⟨o', h', rfl⟩ := mi h
    try simp only [↓Da, Ua, J1D, *, ↓reduceIte, Nat.reduceEqDiff, Nat.reduceAdd, Nat.reduceLT, Nat.reduceMul]
    have e0 := Jmh p h'
    exact e0
def JfE (x0 : List UInt8) (s : Int × Int) : Option (Int) :=
  JK (fun s => J63 x0 s.1 s.2) s
theorem Jka {x0 : List UInt8} {s : Int × Int} {o : Int} (h : JfE x0 s = some o) :
    rk (J1 p) J1w 0 [.bl 0, .sq (.keep [3] J1R)] (X (J1 p) (.lp 0 [0, 3, 4] J1D) ⟨[(0, .p (.s x0)), (3, .p (.i .u32 s.1)), (4, .p (.i .i64 s.2))], []⟩) = J91 o := by
  have h0 : JK (fun s => J63 x0 s.1 s.2) s = some o := h
  exact J10 (P := fun (s : Int × Int) (o : Int) => rk (J1 p) J1w 0 [.bl 0, .sq (.keep [3] J1R)] (X (J1 p) (.lp 0 [0, 3, 4] J1D) ⟨[(0, .p (.s x0)), (3, .p (.i .u32 s.1)), (4, .p (.i .i64 s.2))], []⟩) = J91 o) (fun s r hs => by rw [J0Z]; exact JfF p hs) (fun s s1 r hs ih => by rw [J0Z]; exact (JfF p hs).trans ih) h0
def J7O (x0 : List UInt8) : Option (Int) :=
  JfE x0 (4294967295, 0)
theorem Jk9 {x0 : List UInt8} {o : Int} (h : J7O x0 = some o) :
    rk (J1 p) J1w 0 [] (X (J1 p) Jae ⟨[(0, .p (.s x0))], []⟩) = J91 o := by
  unfold J7O at h
  try simp only [↓Da, Ua, Jae, ↓reduceIte, Nat.reduceEqDiff, Nat.reduceAdd, Nat.reduceLT, Nat.reduceMul]
  have e0 := Jka p h
  exact e0
theorem JoO {x0 : List UInt8} {o : Int} (h : J7O x0 = some o) : AF (J1 p) J7Q [.p (.s x0)] [] = J91 o :=
  (J0j (J1 p) (Jpf p) rfl).trans (Jk9 p h)
theorem Jix {x0 : List UInt8} {o : Int} (h : J7O x0 = some o) : ∀ ws new st, (Jq (AF (J1 p)) J7Q ([.p (.s x0)], ws) 0 new).run st = some ⟨.p (.i .u32 o), ws⟩ := Jz rfl (JoO p h) rfl
def Jcd  (r : Bool) : Option Res := some (.p (.b r), [])
def J1I (x0 : T_api_Index) (x1 : Int) : Option (Bool) :=
  if (decide (x1 ≥ 0)) then
    some (decide (x1 < ((List.length x0.Rows : Nat) : Int)))
  else
    some false
theorem JeG {x0 : T_api_Index} {x1 : Int} {o : Bool} (h : J1I x0 x1 = some o) :
    rk (J1 p) J4Q 0 [] (X (J1 p) J4N ⟨[(0, .data (Jj x0)), (1, .p (.i .i64 x1))], []⟩) = Jcd o := by
  unfold J1I at h
  rcases J9 h with ⟨h1, h⟩ | ⟨h1, h⟩
  · obtain rfl := sj h
    try simp only [↓Da, Ua, J4N, J5, Jk, Jce, *, ↓reduceIte, Nat.reduceEqDiff, Nat.reduceAdd, Nat.reduceLT, Nat.reduceMul]
    rfl
  · obtain rfl := sj h
    try simp only [↓Da, Ua, J4N, J5, Jk, Jce, *, ↓reduceIte, Nat.reduceEqDiff, Nat.reduceAdd, Nat.reduceLT, Nat.reduceMul]
    rfl
theorem Jhw {x0 : T_api_Index} {x1 : Int} {o : Bool} (h : J1I x0 x1 = some o) : AF (J1 p) J3w [.data (Jj x0), .p (.i .i64 x1)] [] = Jcd o :=
  (J0j (J1 p) (Jhu p) rfl).trans (JeG p h)
theorem Jc9 {x0 : T_api_Index} {x1 : Int} {o : Bool} (h : J1I x0 x1 = some o) : ∀ ws new st, (Jq (AF (J1 p)) J3w ([.data (Jj x0), .p (.i .i64 x1)], ws) 0 new).run st = some ⟨.p (.b o), ws⟩ := Jz rfl (Jhw p h) rfl
def J8c  (r : Bool) : Option Res := some (.p (.b r), [])
def Jl7 (x6 : Vector J8 16) (b0 : T_api_Page) (o : (Int) ⊕ (Bool)) : Option Res := match o with
  | .inl s => rk (J1 p) J3b 0 [.bl 0, .td 1 [2], .sq (.keep [] J5m)] (X (J1 p) (.lp 1 [1, 6, 7] J0S) ⟨[(1, .ptr 0 0), (6, .data ((JO Jh) x6)), (7, .p (.i .i64 s))], [.box (List.map AV.p (J4 b0))]⟩)
  | .inr o => J8c o
def J89  : Option (Bool) :=
  some true
theorem Jls {B0 : List PV} {o : Bool} (h : J89 = some o) :
    rk (J1 p) J3b 0 [] (X (J1 p) J5m ⟨[], [.box (List.map AV.p B0)]⟩) = J8c o := by
  unfold J89 at h
  obtain rfl := sj h
  try simp only [↓Da, Ua, J5m, Jb5, ↓reduceIte, Nat.reduceEqDiff, Nat.reduceAdd, Nat.reduceLT, Nat.reduceMul]
  rfl
def J0B (x6 : Vector J8 16) (b0 : T_api_Page) (x7 : Int) : Option (((Int) ⊕ (Bool))) :=
  if (decide (x7 < 16)) then
    Option.bind (J6Z x6 x7) fun y2 =>
    if (decide (((List.length y2.Data : Nat) : Int) > 12)) then
      some (.inr false)
    else
      if y2.Set then
        if ((b0.LSN : Int) == 0) then
          some (.inr false)
        else
          some (.inl (IntKind.wrap .i64 (x7 + 1)))
      else
        if (y2.Data == []) then
          some (.inl (IntKind.wrap .i64 (x7 + 1)))
        else
          some (.inr false)
  else
    Option.map (fun o => .inr o) (J89)
theorem Jek {x6 : Vector J8 16} {b0 : T_api_Page} {x7 : Int} {o : ((Int) ⊕ (Bool))} (h : J0B x6 b0 x7 = some o) :
    rk (J1 p) J3b 0 [.lo 1 [1, 6, 7] J0S, .bl 0, .td 1 [2], .sq (.keep [] J5m)] (X (J1 p) J0S ⟨[(1, .ptr 0 0), (6, .data ((JO Jh) x6)), (7, .p (.i .i64 x7))], [.box (List.map AV.p (J4 b0))]⟩) = (Jl7 p x6 b0) o := by
  unfold J0B at h
  rcases J9 h with ⟨h1, h⟩ | ⟨h1, h⟩
  · obtain ⟨y2, h3, h⟩ := bi h
    have f4 : (0 ≤ (x7 : Int) ∧ (x7 : Int) < ((16 : Nat) : Int)) = True := eq_true (J3a h3).1
    have f5 : sub (JO Jh x6) (Int.toNat x7 * 2) 2 = some (Jh y2) := J7y JI (J3a h3).2
    try simp only [Nf] at f5
    try simp only [↓Da, Ua, J0S, J3, J2, J6, *, ↓reduceIte, Nat.reduceEqDiff, Nat.reduceAdd, Nat.reduceLT, Nat.reduceMul]
    rcases J9 h with ⟨h6, h⟩ | ⟨h6, h⟩
    · obtain rfl := sj h
      try simp only [↓Da, Ua, J0S, J3, J2, J6, Jb5, *, ↓reduceIte, Nat.reduceEqDiff, Nat.reduceAdd, Nat.reduceLT, Nat.reduceMul]
      rfl
    · try simp only [↓Da, Ua, J0S, J3, J2, J6, *, ↓reduceIte, Nat.reduceEqDiff, Nat.reduceAdd, Nat.reduceLT, Nat.reduceMul]
      rcases J9 h with ⟨h7, h⟩ | ⟨h7, h⟩
      · try simp only [↓Da, Ua, J0S, J3, J2, J6, *, ↓reduceIte, Nat.reduceEqDiff, Nat.reduceAdd, Nat.reduceLT, Nat.reduceMul]
        rcases J9 h with ⟨h8, h⟩ | ⟨h8, h⟩
        · have h8n : ((b0.LSN : Int) != 0) = false := by rw [bne, h8]; rfl
          obtain rfl := sj h
          try simp only [↓Da, Ua, J0S, J3, J2, J6, Jb5, *, ↓reduceIte, Nat.reduceEqDiff, Nat.reduceAdd, Nat.reduceLT, Nat.reduceMul]
          rfl
        · have h8n : ((b0.LSN : Int) != 0) = true := by rw [bne, h8]; rfl
          obtain rfl := sj h
          try simp only [↓Da, Ua, J0S, J3, J2, J6, *, ↓reduceIte, Nat.reduceEqDiff, Nat.reduceAdd, Nat.reduceLT, Nat.reduceMul]
          rfl
      · try simp only [↓Da, Ua, J0S, J3, J2, J6, *, ↓reduceIte, Nat.reduceEqDiff, Nat.reduceAdd, Nat.reduceLT, Nat.reduceMul]
        rcases J9 h with ⟨h9, h⟩ | ⟨h9, h⟩
        · obtain rfl := sj h
          try simp only [↓Da, Ua, J0S, J3, J2, J6, *, ↓reduceIte, Nat.reduceEqDiff, Nat.reduceAdd, Nat.reduceLT, Nat.reduceMul]
          rfl
        · obtain rfl := sj h
          try simp only [↓Da, Ua, J0S, J3, J2, J6, Jb5, *, ↓reduceIte, Nat.reduceEqDiff, Nat.reduceAdd, Nat.reduceLT, Nat.reduceMul]
          rfl
  · obtain ⟨o', h', rfl⟩ := mi h
    try simp only [↓Da, Ua, J0S, J3, J2, J6, *, ↓reduceIte, Nat.reduceEqDiff, Nat.reduceAdd, Nat.reduceLT, Nat.reduceMul]
    have e0 := Jls p (B0 := (J4 b0)) h'
    exact e0
def Jei (x6 : Vector J8 16) (b0 : T_api_Page) (s : Int) : Option (Bool) :=
  JK (fun s => J0B x6 b0 s) s
theorem Jj0 {x6 : Vector J8 16} {b0 : T_api_Page} {s : Int} {o : Bool} (h : Jei x6 b0 s = some o) :
    rk (J1 p) J3b 0 [.bl 0, .td 1 [2], .sq (.keep [] J5m)] (X (J1 p) (.lp 1 [1, 6, 7] J0S) ⟨[(1, .ptr 0 0), (6, .data ((JO Jh) x6)), (7, .p (.i .i64 s))], [.box (List.map AV.p (J4 b0))]⟩) = J8c o := by
  have h0 : JK (fun s => J0B x6 b0 s) s = some o := h
  exact J10 (P := fun (s : Int) (o : Bool) => rk (J1 p) J3b 0 [.bl 0, .td 1 [2], .sq (.keep [] J5m)] (X (J1 p) (.lp 1 [1, 6, 7] J0S) ⟨[(1, .ptr 0 0), (6, .data ((JO Jh) x6)), (7, .p (.i .i64 s))], [.box (List.map AV.p (J4 b0))]⟩) = J8c o) (fun s r hs => by rw [J0Z]; exact Jek p hs) (fun s s1 r hs ih => by rw [J0Z]; exact (Jek p hs).trans ih) h0
def J5E (x0 : T_api_Page) : Option (Bool) :=
  Jei x0.Cells x0 0
theorem Jjd {x0 : T_api_Page} {o : Bool} (h : J5E x0 = some o) :
    rk (J1 p) J3b 0 [] (X (J1 p) J9w ⟨[(0, .data (J4 x0))], []⟩) = J8c o := by
  unfold J5E at h
  try simp only [↓Da, Ua, J9w, J3, J2, J6, ↓reduceIte, Nat.reduceEqDiff, Nat.reduceAdd, Nat.reduceLT, Nat.reduceMul]
  have e0 := Jj0 p h
  exact e0
theorem Joj {x0 : T_api_Page} {o : Bool} (h : J5E x0 = some o) : AF (J1 p) J8j [.data (J4 x0)] [] = J8c o :=
  (J0j (J1 p) (JnX p) rfl).trans (Jjd p h)
theorem Jo1 {x0 : T_api_Page} {o : Bool} (h : J5E x0 = some o) : ∀ ws new st, (Jq (AF (J1 p)) J8j ([.data (J4 x0)], ws) 0 new).run st = some ⟨.p (.b o), ws⟩ := Jz rfl (Joj p h) rfl
end
end Go.Am
end
section
namespace Go.Am
set_option maxRecDepth 8000
set_option maxHeartbeats 4000000
set_option linter.unusedSimpArgs false
set_option linter.unusedVariables false
noncomputable section
variable (p : FuncId → Option (List AV → List Blk → Option Res))
def JcI (r : List UInt8) : Option Res := some (.p (.s r), [])
def J46 (x0 : List UInt8) (x1 : Int) : Option (List UInt8) := JlB x0 x1
theorem Jjf {x0 : List UInt8} {x1 : Int} {o : List UInt8} (h : J46 x0 x1 = some o) : AF (J1 p) J2C [.p (.s x0), .p (.i .i64 x1)] [] = JcI o := by
  rw [Jq2 (JiC p)]
  have h' : JlB x0 x1 = some o := h
  simp only [Jot, h', Option.map_some, JcI]
theorem JaC {x0 : List UInt8} {x1 : Int} {o : List UInt8} (h : J46 x0 x1 = some o) : ∀ ws new st, (Jq (AF (J1 p)) J2C ([.p (.s x0), .p (.i .i64 x1)], ws) 0 new).run st = some ⟨.p (.s o), ws⟩ := Jz rfl (Jjf p h) rfl
def JdJ  (r : Bool) : Option Res := some (.p (.b r), [])
def J4D (x0 : T_api_Page) : Option (Bool) :=
  if (decide (x0.ID ≥ 0)) then
    if (decide (x0.ID < 64)) then
      if (decide (x0.LSN ≥ 0)) then
        some (decide (x0.LSN ≤ 1099511627776))
      else
        some false
    else
      some false
  else
    some false
theorem Jg2 {x0 : T_api_Page} {o : Bool} (h : J4D x0 = some o) :
    rk (J1 p) J5N 0 [] (X (J1 p) J2m ⟨[(0, .data (J4 x0))], []⟩) = JdJ o := by
  unfold J4D at h
  rcases J9 h with ⟨h1, h⟩ | ⟨h1, h⟩
  · try simp only [↓Da, Ua, J2m, J3, J2, J6, *, ↓reduceIte, Nat.reduceEqDiff, Nat.reduceAdd, Nat.reduceLT, Nat.reduceMul]
    rcases J9 h with ⟨h2, h⟩ | ⟨h2, h⟩
    · try simp only [↓Da, Ua, J2m, J3, J2, J6, *, ↓reduceIte, Nat.reduceEqDiff, Nat.reduceAdd, Nat.reduceLT, Nat.reduceMul]
      rcases J9 h with ⟨h3, h⟩ | ⟨h3, h⟩
      · obtain rfl := sj h
        try simp only [↓Da, Ua, J2m, J3, J2, J6, J9p, *, ↓reduceIte, Nat.reduceEqDiff, Nat.reduceAdd, Nat.reduceLT, Nat.reduceMul]
        rfl
      · obtain rfl := sj h
        try simp only [↓Da, Ua, J2m, J3, J2, J6, J9p, *, ↓reduceIte, Nat.reduceEqDiff, Nat.reduceAdd, Nat.reduceLT, Nat.reduceMul]
        rfl
    · obtain rfl := sj h
      try simp only [↓Da, Ua, J2m, J3, J2, J6, J9p, *, ↓reduceIte, Nat.reduceEqDiff, Nat.reduceAdd, Nat.reduceLT, Nat.reduceMul]
      rfl
  · obtain rfl := sj h
    try simp only [↓Da, Ua, J2m, J3, J2, J6, J9p, *, ↓reduceIte, Nat.reduceEqDiff, Nat.reduceAdd, Nat.reduceLT, Nat.reduceMul]
    rfl
theorem JjJ {x0 : T_api_Page} {o : Bool} (h : J4D x0 = some o) : AF (J1 p) J5K [.data (J4 x0)] [] = JdJ o :=
  (J0j (J1 p) (Jkh p) rfl).trans (Jg2 p h)
theorem Jks {x0 : T_api_Page} {o : Bool} (h : J4D x0 = some o) : ∀ ws new st, (Jq (AF (J1 p)) J5K ([.data (J4 x0)], ws) 0 new).run st = some ⟨.p (.b o), ws⟩ := Jz rfl (JjJ p h) rfl
def J9a  (r : Int × Int) : Option Res := some (.tup [.p (.i .i64 r.1), .p (.i .i64 r.2)], [])
def JmW (x0 : List UInt8) (x1 : Int) (x2 : Int) (o : (Int × Int) ⊕ (Int × Int)) : Option Res := match o with
  | .inl s => rk (J1 p) J3R 0 [.bl 0, .sq (.keep [8] J5X)] (X (J1 p) (.lp 0 [0, 1, 2, 8, 9] J52) ⟨[(0, .p (.s x0)), (1, .p (.i .i64 x1)), (2, .p (.i .i64 x2)), (8, .p (.i .u64 s.1)), (9, .p (.i .i64 s.2))], []⟩)
  | .inr o => J9a o
def Jaw (x8 : Int) : Option (Int × Int) :=
  some ((IntKind.wrap .i64 x8), 0)
theorem Jnh {x8 : Int} {o : Int × Int} (h : Jaw x8 = some o) :
    rk (J1 p) J3R 0 [] (X (J1 p) J5X ⟨[(8, .p (.i .u64 x8))], []⟩) = J9a o := by
  unfold Jaw at h
  obtain rfl := sj h
  try simp only [↓Da, Ua, J5X, J9c, ↓reduceIte, Nat.reduceEqDiff, Nat.reduceAdd, Nat.reduceLT, Nat.reduceMul]
  rfl
def J7a (x0 : List UInt8) (x1 : Int) (x2 : Int) (x8 : Int) (x9 : Int) : Option (((Int × Int) ⊕ (Int × Int))) :=
  if (decide (x9 < x2)) then
    Option.bind (Jd6 x0 (IntKind.wrap .i64 (x1 + x9))) fun c2 =>
    Option.bind (JdY .u64 (IntKind.wrap .u64 c2) (IntKind.wrap .u64 (IntKind.wrap .i64 (8 * x9)))) fun q4 =>
    some (.inl ((orI .u64 x8 q4), (IntKind.wrap .i64 (x9 + 1))))
  else
    Option.map (fun o => .inr o) (Jaw x8)
theorem JfS {x0 : List UInt8} {x1 : Int} {x2 : Int} {x8 : Int} {x9 : Int} {o : ((Int × Int) ⊕ (Int × Int))} (h : J7a x0 x1 x2 x8 x9 = some o) :
    rk (J1 p) J3R 0 [.lo 0 [0, 1, 2, 8, 9] J52, .bl 0, .sq (.keep [8] J5X)] (X (J1 p) J52 ⟨[(0, .p (.s x0)), (1, .p (.i .i64 x1)), (2, .p (.i .i64 x2)), (8, .p (.i .u64 x8)), (9, .p (.i .i64 x9))], []⟩) = (JmW p x0 x1 x2) o := by
  unfold J7a at h
  rcases J9 h with ⟨h1, h⟩ | ⟨h1, h⟩
  · obtain ⟨c2, h3, h⟩ := bi h
    obtain ⟨q4, h5, h⟩ := bi h
    obtain rfl := sj h
    try simp only [↓Da, Ua, J52, *, ↓reduceIte, Nat.reduceEqDiff, Nat.reduceAdd, Nat.reduceLT, Nat.reduceMul]
    rfl
  · obtain ⟨o', h', rfl⟩ := mi h
    try simp only [↓Da, Ua, J52, *, ↓reduceIte, Nat.reduceEqDiff, Nat.reduceAdd, Nat.reduceLT, Nat.reduceMul]
    have e0 := Jnh p h'
    exact e0
def Jc1 (x0 : List UInt8) (x1 : Int) (x2 : Int) (s : Int × Int) : Option (Int × Int) :=
  JK (fun s => J7a x0 x1 x2 s.1 s.2) s
theorem Jk7 {x0 : List UInt8} {x1 : Int} {x2 : Int} {s : Int × Int} {o : Int × Int} (h : Jc1 x0 x1 x2 s = some o) :
    rk (J1 p) J3R 0 [.bl 0, .sq (.keep [8] J5X)] (X (J1 p) (.lp 0 [0, 1, 2, 8, 9] J52) ⟨[(0, .p (.s x0)), (1, .p (.i .i64 x1)), (2, .p (.i .i64 x2)), (8, .p (.i .u64 s.1)), (9, .p (.i .i64 s.2))], []⟩) = J9a o := by
  have h0 : JK (fun s => J7a x0 x1 x2 s.1 s.2) s = some o := h
  exact J10 (P := fun (s : Int × Int) (o : Int × Int) => rk (J1 p) J3R 0 [.bl 0, .sq (.keep [8] J5X)] (X (J1 p) (.lp 0 [0, 1, 2, 8, 9] J52) ⟨[(0, .p (.s x0)), (1, .p (.i .i64 x1)), (2, .p (.i .i64 x2)), (8, .p (.i .u64 s.1)), (9, .p (.i .i64 s.2))], []⟩) = J9a o) (fun s r hs => by rw [J0Z]; exact JfS p hs) (fun s s1 r hs ih => by rw [J0Z]; exact (JfS p hs).trans ih) h0
def J3h (x0 : List UInt8) (x1 : Int) (x2 : Int) : Option (Int × Int) :=
  if (decide (x2 < 1)) then
    some (0, 1)
  else
    if (decide (x2 > 8)) then
      some (0, 1)
    else
      if (decide (x1 < 0)) then
        some (0, 1)
      else
        if (decide (x1 > ((List.length x0 : Nat) : Int))) then
          some (0, 5)
        else
          if (decide ((IntKind.wrap .i64 (((List.length x0 : Nat) : Int) - x1)) < x2)) then
            some (0, 5)
          else
            Jc1 x0 x1 x2 (0, 0)
theorem Jkc {x0 : List UInt8} {x1 : Int} {x2 : Int} {o : Int × Int} (h : J3h x0 x1 x2 = some o) :
    rk (J1 p) J3R 0 [] (X (J1 p) J2p ⟨[(0, .p (.s x0)), (1, .p (.i .i64 x1)), (2, .p (.i .i64 x2))], []⟩) = J9a o := by
  unfold J3h at h
  rcases J9 h with ⟨h1, h⟩ | ⟨h1, h⟩
  · obtain rfl := sj h
    try simp only [↓Da, Ua, J2p, J9c, *, ↓reduceIte, Nat.reduceEqDiff, Nat.reduceAdd, Nat.reduceLT, Nat.reduceMul]
    rfl
  · try simp only [↓Da, Ua, J2p, *, ↓reduceIte, Nat.reduceEqDiff, Nat.reduceAdd, Nat.reduceLT, Nat.reduceMul]
    rcases J9 h with ⟨h2, h⟩ | ⟨h2, h⟩
    · obtain rfl := sj h
      try simp only [↓Da, Ua, J2p, J9c, *, ↓reduceIte, Nat.reduceEqDiff, Nat.reduceAdd, Nat.reduceLT, Nat.reduceMul]
      rfl
    · try simp only [↓Da, Ua, J2p, *, ↓reduceIte, Nat.reduceEqDiff, Nat.reduceAdd, Nat.reduceLT, Nat.reduceMul]
      rcases J9 h with ⟨h3, h⟩ | ⟨h3, h⟩
      · obtain rfl := sj h
        try simp only [↓Da, Ua, J2p, J9c, *, ↓reduceIte, Nat.reduceEqDiff, Nat.reduceAdd, Nat.reduceLT, Nat.reduceMul]
        rfl
      · try simp only [↓Da, Ua, J2p, *, ↓reduceIte, Nat.reduceEqDiff, Nat.reduceAdd, Nat.reduceLT, Nat.reduceMul]
        rcases J9 h with ⟨h4, h⟩ | ⟨h4, h⟩
        · obtain rfl := sj h
          try simp only [↓Da, Ua, J2p, J9c, *, ↓reduceIte, Nat.reduceEqDiff, Nat.reduceAdd, Nat.reduceLT, Nat.reduceMul]
          rfl
        · try simp only [↓Da, Ua, J2p, *, ↓reduceIte, Nat.reduceEqDiff, Nat.reduceAdd, Nat.reduceLT, Nat.reduceMul]
          rcases J9 h with ⟨h5, h⟩ | ⟨h5, h⟩
          · obtain rfl := sj h
            try simp only [↓Da, Ua, J2p, J9c, *, ↓reduceIte, Nat.reduceEqDiff, Nat.reduceAdd, Nat.reduceLT, Nat.reduceMul]
            rfl
          · try simp only [↓Da, Ua, J2p, *, ↓reduceIte, Nat.reduceEqDiff, Nat.reduceAdd, Nat.reduceLT, Nat.reduceMul]
            have e0 := Jk7 p h
            exact e0
theorem JpA {x0 : List UInt8} {x1 : Int} {x2 : Int} {o : Int × Int} (h : J3h x0 x1 x2 = some o) : AF (J1 p) J6v [.p (.s x0), .p (.i .i64 x1), .p (.i .i64 x2)] [] = J9a o :=
  (J0j (J1 p) (JoN p) rfl).trans (Jkc p h)
theorem Je7 {x0 : List UInt8} {x1 : Int} {x2 : Int} {o : Int × Int} (h : J3h x0 x1 x2 = some o) : ∀ ws new st, (Jq (AF (J1 p)) J6v ([.p (.s x0), .p (.i .i64 x1), .p (.i .i64 x2)], ws) 0 new).run st = some ⟨.tup [.p (.i .i64 o.1), .p (.i .i64 o.2)], ws⟩ := Jz rfl (JpA p h) rfl
def Jiy  (r : T_api_Page) : Option Res := some (.data (J4 r), [])
def J94 (x0 : Int) : Option (T_api_Page) :=
  some (⟨x0, 0, (Vector.replicate 16 (⟨false, []⟩ : J8))⟩ : T_api_Page)
theorem Jkt {x0 : Int} {o : T_api_Page} (h : J94 x0 = some o) :
    rk (J1 p) J98 0 [] (X (J1 p) Jag ⟨[(0, .p (.i .i64 x0))], []⟩) = Jiy o := by
  unfold J94 at h
  obtain rfl := sj h
  try simp only [↓Da, Ua, Jag, J3, J2, J6, Jpx, ↓reduceIte, Nat.reduceEqDiff, Nat.reduceAdd, Nat.reduceLT, Nat.reduceMul]
  rfl
theorem Jp0 {x0 : Int} {o : T_api_Page} (h : J94 x0 = some o) : AF (J1 p) J8W [.p (.i .i64 x0)] [] = Jiy o :=
  (J0j (J1 p) (Jph p) rfl).trans (Jkt p h)
theorem JpK {x0 : Int} {o : T_api_Page} (h : J94 x0 = some o) : ∀ ws new st, (Jq (AF (J1 p)) J8W ([.p (.i .i64 x0)], ws) 0 new).run st = some ⟨.data (J4 o), ws⟩ := Jz rfl (Jp0 p h) rfl
def JaQ  (r : Bool) : Option Res := some (.p (.b r), [])
def J0M (x0 : Int) : Option (Bool) :=
  if (decide (x0 ≥ 0)) then
    some (decide (x0 ≤ 1099511627776))
  else
    some false
theorem JcQ {x0 : Int} {o : Bool} (h : J0M x0 = some o) :
    rk (J1 p) J3o 0 [] (X (J1 p) J3n ⟨[(0, .p (.i .i64 x0))], []⟩) = JaQ o := by
  unfold J0M at h
  rcases J9 h with ⟨h1, h⟩ | ⟨h1, h⟩
  · obtain rfl := sj h
    try simp only [↓Da, Ua, J3n, JaZ, *, ↓reduceIte, Nat.reduceEqDiff, Nat.reduceAdd, Nat.reduceLT, Nat.reduceMul]
    rfl
  · obtain rfl := sj h
    try simp only [↓Da, Ua, J3n, JaZ, *, ↓reduceIte, Nat.reduceEqDiff, Nat.reduceAdd, Nat.reduceLT, Nat.reduceMul]
    rfl
theorem JeS {x0 : Int} {o : Bool} (h : J0M x0 = some o) : AF (J1 p) J21 [.p (.i .i64 x0)] [] = JaQ o :=
  (J0j (J1 p) (Jf8 p) rfl).trans (JcQ p h)
theorem J8C {x0 : Int} {o : Bool} (h : J0M x0 = some o) : ∀ ws new st, (Jq (AF (J1 p)) J21 ([.p (.i .i64 x0)], ws) 0 new).run st = some ⟨.p (.b o), ws⟩ := Jz rfl (JeS p h) rfl
def Jh3  (r : Bool) : Option Res := some (.p (.b r), [])
def J2F (x0 : Int) : Option (Bool) :=
  if (decide (x0 ≥ 0)) then
    some (decide (x0 < 64))
  else
    some false
theorem JiG {x0 : Int} {o : Bool} (h : J2F x0 = some o) :
    rk (J1 p) J8b 0 [] (X (J1 p) J8g ⟨[(0, .p (.i .i64 x0))], []⟩) = Jh3 o := by
  unfold J2F at h
  rcases J9 h with ⟨h1, h⟩ | ⟨h1, h⟩
  · obtain rfl := sj h
    try simp only [↓Da, Ua, J8g, JgU, *, ↓reduceIte, Nat.reduceEqDiff, Nat.reduceAdd, Nat.reduceLT, Nat.reduceMul]
    rfl
  · obtain rfl := sj h
    try simp only [↓Da, Ua, J8g, JgU, *, ↓reduceIte, Nat.reduceEqDiff, Nat.reduceAdd, Nat.reduceLT, Nat.reduceMul]
    rfl
theorem JoB {x0 : Int} {o : Bool} (h : J2F x0 = some o) : AF (J1 p) J6O [.p (.i .i64 x0)] [] = Jh3 o :=
  (J0j (J1 p) (JoK p) rfl).trans (JiG p h)
theorem JgR {x0 : Int} {o : Bool} (h : J2F x0 = some o) : ∀ ws new st, (Jq (AF (J1 p)) J6O ([.p (.i .i64 x0)], ws) 0 new).run st = some ⟨.p (.b o), ws⟩ := Jz rfl (JoB p h) rfl
def JkE  (r : T_api_Page) : Option Res := some (.data (J4 r), [])
def J9L (x0 : Int) : Option (T_api_Page) :=
  some (⟨x0, 0, (Vector.replicate 16 (⟨false, []⟩ : J8))⟩ : T_api_Page)
theorem JlA {x0 : Int} {o : T_api_Page} (h : J9L x0 = some o) :
    rk (J1 p) J9X 0 [] (X (J1 p) Jb0 ⟨[(0, .p (.i .i64 x0))], []⟩) = JkE o := by
  unfold J9L at h
  obtain rfl := sj h
  try simp only [↓Da, Ua, Jb0, J3, J2, J6, JqY, ↓reduceIte, Nat.reduceEqDiff, Nat.reduceAdd, Nat.reduceLT, Nat.reduceMul]
  rfl
theorem Jqi {x0 : Int} {o : T_api_Page} (h : J9L x0 = some o) : AF (J1 p) J9T [.p (.i .i64 x0)] [] = JkE o :=
  (J0j (J1 p) (JqR p) rfl).trans (JlA p h)
theorem JqB {x0 : Int} {o : T_api_Page} (h : J9L x0 = some o) : ∀ ws new st, (Jq (AF (J1 p)) J9T ([.p (.i .i64 x0)], ws) 0 new).run st = some ⟨.data (J4 o), ws⟩ := Jz rfl (Jqi p h) rfl
def Jiv  (r : Bool) : Option Res := some (.p (.b r), [])
def J6s (x0 : Int) : Option (Bool) :=
  if (decide (x0 ≥ 0)) then
    some (decide (x0 ≤ 1099511627776))
  else
    some false
theorem Jki {x0 : Int} {o : Bool} (h : J6s x0 = some o) :
    rk (J1 p) J8V 0 [] (X (J1 p) J8Z ⟨[(0, .p (.i .i64 x0))], []⟩) = Jiv o := by
  unfold J6s at h
  rcases J9 h with ⟨h1, h⟩ | ⟨h1, h⟩
  · obtain rfl := sj h
    try simp only [↓Da, Ua, J8Z, Jis, *, ↓reduceIte, Nat.reduceEqDiff, Nat.reduceAdd, Nat.reduceLT, Nat.reduceMul]
    rfl
  · obtain rfl := sj h
    try simp only [↓Da, Ua, J8Z, Jis, *, ↓reduceIte, Nat.reduceEqDiff, Nat.reduceAdd, Nat.reduceLT, Nat.reduceMul]
    rfl
theorem Jpi {x0 : Int} {o : Bool} (h : J6s x0 = some o) : AF (J1 p) J6q [.p (.i .i64 x0)] [] = Jiv o :=
  (J0j (J1 p) (Jpn p) rfl).trans (Jki p h)
theorem Je1 {x0 : Int} {o : Bool} (h : J6s x0 = some o) : ∀ ws new st, (Jq (AF (J1 p)) J6q ([.p (.i .i64 x0)], ws) 0 new).run st = some ⟨.p (.b o), ws⟩ := Jz rfl (Jpi p h) rfl
def J4b  (r : (Vector Int 16)) : Option Res := some (.data ((JO (r_i .u32)) r), [])
def J3k (b0 : Vector Int 16) (o : (Int × (Vector Int 16)) ⊕ ((Vector Int 16))) : Option Res := match o with
  | .inl s => rk (J1 p) J0g 0 [.bl 0, .sq (.keep [0, 1] J0x)] (X (J1 p) (.lp 2 [0, 1, 4] J0p) ⟨[(0, .ptr 0 0), (1, .ptr 1 0), (4, .p (.i .i64 s.1))], [.box (List.map AV.p ((JO (r_i .u32)) b0)), .box (List.map AV.p ((JO (r_i .u32)) s.2))]⟩)
  | .inr o => J4b o
def Jft (x2 : Int) (x4 : Int) (b0 : Vector Int 16) (b1 : Vector Int 16) (o : (Int × Int) ⊕ (((Int × (Vector Int 16)) ⊕ ((Vector Int 16))))) : Option Res := match o with
  | .inl s => rk (J1 p) J0g 0 [.bl 2, .sq (.keep [0, 1, 2, 3, 4] J2w), .bl 1, .sq (.keep [0, 1, 4] J1W), .lo 2 [0, 1, 4] J0p, .bl 0, .sq (.keep [0, 1] J0x)] (X (J1 p) (.lp 2 [0, 1, 2, 3, 4, 9] J17) ⟨[(0, .ptr 0 0), (1, .ptr 1 0), (2, .p (.i .i64 x2)), (3, .p (.i .u32 s.1)), (4, .p (.i .i64 x4)), (9, .p (.i .i64 s.2))], [.box (List.map AV.p ((JO (r_i .u32)) b0)), .box (List.map AV.p ((JO (r_i .u32)) b1))]⟩)
  | .inr o => (J3k p b0) o
def J4B (x4 : Int) (b0 : Vector Int 16) (b1 : Vector Int 16) : Option (((Int × (Vector Int 16)) ⊕ ((Vector Int 16)))) :=
  some (.inl ((IntKind.wrap .i64 (x4 + 1)), b1))
theorem JeW {x4 : Int} {b0 : Vector Int 16} {b1 : Vector Int 16} {o : ((Int × (Vector Int 16)) ⊕ ((Vector Int 16)))} (h : J4B x4 b0 b1 = some o) :
    rk (J1 p) J0g 0 [.lo 2 [0, 1, 4] J0p, .bl 0, .sq (.keep [0, 1] J0x)] (X (J1 p) J1W ⟨[(0, .ptr 0 0), (1, .ptr 1 0), (4, .p (.i .i64 x4))], [.box (List.map AV.p ((JO (r_i .u32)) b0)), .box (List.map AV.p ((JO (r_i .u32)) b1))]⟩) = (J3k p b0) o := by
  unfold J4B at h
  obtain rfl := sj h
  try simp only [↓Da, Ua, J1W, ↓reduceIte, Nat.reduceEqDiff, Nat.reduceAdd, Nat.reduceLT, Nat.reduceMul]
  rfl
def J4z (x2 : Int) (x3 : Int) (x4 : Int) (b0 : Vector Int 16) (b1 : Vector Int 16) : Option (((Int × (Vector Int 16)) ⊕ ((Vector Int 16)))) :=
  Option.bind (inb 16 x2) fun u1 =>
  Option.bind (J6Z b1 x2) fun y4 =>
  J4B x4 b0 (JaE b1 x2 x3)
theorem Jfv {x2 : Int} {x3 : Int} {x4 : Int} {b0 : Vector Int 16} {b1 : Vector Int 16} {o : ((Int × (Vector Int 16)) ⊕ ((Vector Int 16)))} (h : J4z x2 x3 x4 b0 b1 = some o) :
    rk (J1 p) J0g 0 [.bl 1, .sq (.keep [0, 1, 4] J1W), .lo 2 [0, 1, 4] J0p, .bl 0, .sq (.keep [0, 1] J0x)] (X (J1 p) J2w ⟨[(0, .ptr 0 0), (1, .ptr 1 0), (2, .p (.i .i64 x2)), (3, .p (.i .u32 x3)), (4, .p (.i .i64 x4))], [.box (List.map AV.p ((JO (r_i .u32)) b0)), .box (List.map AV.p ((JO (r_i .u32)) b1))]⟩) = (J3k p b0) o := by
  unfold J4z at h
  obtain ⟨u1, h2, h⟩ := bi h
  have f3 : (0 ≤ (x2 : Int) ∧ (x2 : Int) < ((16 : Nat) : Int)) = True := eq_true (J8h h2)
  obtain ⟨y4, h5, h⟩ := bi h
  have f6 : spl ((JO (r_i .u32)) b1) (Int.toNat x2 * 1) ((r_i .u32) x3) = some ((JO (r_i .u32)) (JaE b1 x2 x3)) := by
    have e0 := (JjR (v := b1) (J5j .u32) (Jhp h5) x3)
    exact e0
  try simp only [Nf] at f6
  try simp only [↓Da, Ua, J2w, *, ↓reduceIte, Nat.reduceEqDiff, Nat.reduceAdd, Nat.reduceLT, Nat.reduceMul]
  have e0 := JeW p h
  exact e0
def J0N (x2 : Int) (x4 : Int) (b0 : Vector Int 16) (b1 : Vector Int 16) (x3 : Int) (x9 : Int) : Option (((Int × Int) ⊕ (((Int × (Vector Int 16)) ⊕ ((Vector Int 16)))))) :=
  if (decide (x9 < 4)) then
    if (((J5z .u32 x3 1) : Int) == 1) then
      Option.bind (Jaz .u32 x3 1) fun q3 =>
      some (.inl ((J5S .u32 q3 2197175160), (IntKind.wrap .i64 (x9 + 1))))
    else
      Option.bind (Jaz .u32 x3 1) fun q5 =>
      some (.inl (q5, (IntKind.wrap .i64 (x9 + 1))))
  else
    Option.map (fun o => .inr o) (J4z x2 x3 x4 b0 b1)
theorem Jb9 {x2 : Int} {x4 : Int} {b0 : Vector Int 16} {b1 : Vector Int 16} {x3 : Int} {x9 : Int} {o : ((Int × Int) ⊕ (((Int × (Vector Int 16)) ⊕ ((Vector Int 16)))))} (h : J0N x2 x4 b0 b1 x3 x9 = some o) :
    rk (J1 p) J0g 0 [.lo 2 [0, 1, 2, 3, 4, 9] J17, .bl 2, .sq (.keep [0, 1, 2, 3, 4] J2w), .bl 1, .sq (.keep [0, 1, 4] J1W), .lo 2 [0, 1, 4] J0p, .bl 0, .sq (.keep [0, 1] J0x)] (X (J1 p) J17 ⟨[(0, .ptr 0 0), (1, .ptr 1 0), (2, .p (.i .i64 x2)), (3, .p (.i .u32 x3)), (4, .p (.i .i64 x4)), (9, .p (.i .i64 x9))], [.box (List.map AV.p ((JO (r_i .u32)) b0)), .box (List.map AV.p ((JO (r_i .u32)) b1))]⟩) = (Jft p x2 x4 b0 b1) o := by
  unfold J0N at h
  rcases J9 h with ⟨h1, h⟩ | ⟨h1, h⟩
  · try simp only [↓Da, Ua, J17, *, ↓reduceIte, Nat.reduceEqDiff, Nat.reduceAdd, Nat.reduceLT, Nat.reduceMul]
    rcases J9 h with ⟨h2, h⟩ | ⟨h2, h⟩
    · have h2n : (((J5z .u32 x3 1) : Int) != 1) = false := by rw [bne, h2]; rfl
      obtain ⟨q3, h4, h⟩ := bi h
      obtain rfl := sj h
      try simp only [↓Da, Ua, J17, *, ↓reduceIte, Nat.reduceEqDiff, Nat.reduceAdd, Nat.reduceLT, Nat.reduceMul]
      rfl
    · have h2n : (((J5z .u32 x3 1) : Int) != 1) = true := by rw [bne, h2]; rfl
      obtain ⟨q5, h6, h⟩ := bi h
      obtain rfl := sj h
      try simp only [↓Da, Ua, J17, *, ↓reduceIte, Nat.reduceEqDiff, Nat.reduceAdd, Nat.reduceLT, Nat.reduceMul]
      rfl
  · obtain ⟨o', h', rfl⟩ := mi h
    try simp only [↓Da, Ua, J17, *, ↓reduceIte, Nat.reduceEqDiff, Nat.reduceAdd, Nat.reduceLT, Nat.reduceMul]
    have e0 := Jfv p h'
    exact e0
def J8q (x2 : Int) (x4 : Int) (b0 : Vector Int 16) (b1 : Vector Int 16) (s : Int × Int) : Option (((Int × (Vector Int 16)) ⊕ ((Vector Int 16)))) :=
  JK (fun s => J0N x2 x4 b0 b1 s.1 s.2) s
theorem JdU {x2 : Int} {x4 : Int} {b0 : Vector Int 16} {b1 : Vector Int 16} {s : Int × Int} {o : ((Int × (Vector Int 16)) ⊕ ((Vector Int 16)))} (h : J8q x2 x4 b0 b1 s = some o) :
    rk (J1 p) J0g 0 [.bl 2, .sq (.keep [0, 1, 2, 3, 4] J2w), .bl 1, .sq (.keep [0, 1, 4] J1W), .lo 2 [0, 1, 4] J0p, .bl 0, .sq (.keep [0, 1] J0x)] (X (J1 p) (.lp 2 [0, 1, 2, 3, 4, 9] J17) ⟨[(0, .ptr 0 0), (1, .ptr 1 0), (2, .p (.i .i64 x2)), (3, .p (.i .u32 s.1)), (4, .p (.i .i64 x4)), (9, .p (.i .i64 s.2))], [.box (List.map AV.p ((JO (r_i .u32)) b0)), .box (List.map AV.p ((JO (r_i .u32)) b1))]⟩) = (J3k p b0) o := by
  have h0 : JK (fun s => J0N x2 x4 b0 b1 s.1 s.2) s = some o := h
  exact J10 (P := fun (s : Int × Int) (o : ((Int × (Vector Int 16)) ⊕ ((Vector Int 16)))) => rk (J1 p) J0g 0 [.bl 2, .sq (.keep [0, 1, 2, 3, 4] J2w), .bl 1, .sq (.keep [0, 1, 4] J1W), .lo 2 [0, 1, 4] J0p, .bl 0, .sq (.keep [0, 1] J0x)] (X (J1 p) (.lp 2 [0, 1, 2, 3, 4, 9] J17) ⟨[(0, .ptr 0 0), (1, .ptr 1 0), (2, .p (.i .i64 x2)), (3, .p (.i .u32 s.1)), (4, .p (.i .i64 x4)), (9, .p (.i .i64 s.2))], [.box (List.map AV.p ((JO (r_i .u32)) b0)), .box (List.map AV.p ((JO (r_i .u32)) b1))]⟩) = (J3k p b0) o) (fun s r hs => by rw [J0Z]; exact Jb9 p hs) (fun s s1 r hs ih => by rw [J0Z]; exact (Jb9 p hs).trans ih) h0
def J4A (b0 : Vector Int 16) (b1 : Vector Int 16) : Option ((Vector Int 16)) :=
  some b1
theorem Jfk {b0 : Vector Int 16} {b1 : Vector Int 16} {o : (Vector Int 16)} (h : J4A b0 b1 = some o) :
    rk (J1 p) J0g 0 [] (X (J1 p) J0x ⟨[(0, .ptr 0 0), (1, .ptr 1 0)], [.box (List.map AV.p ((JO (r_i .u32)) b0)), .box (List.map AV.p ((JO (r_i .u32)) b1))]⟩) = J4b o := by
  unfold J4A at h
  obtain rfl := sj h
  try simp only [↓Da, Ua, J0x, J7J, JgJ, ↓reduceIte, Nat.reduceEqDiff, Nat.reduceAdd, Nat.reduceLT, Nat.reduceMul]
  rfl
def J1b (b0 : Vector Int 16) (x4 : Int) (b1 : Vector Int 16) : Option (((Int × (Vector Int 16)) ⊕ ((Vector Int 16)))) :=
  if (decide (x4 < 16)) then
    J8q x4 x4 b0 b1 ((IntKind.wrap .u32 x4), 0)
  else
    Option.map (fun o => .inr o) (J4A b0 b1)
theorem JaR {b0 : Vector Int 16} {x4 : Int} {b1 : Vector Int 16} {o : ((Int × (Vector Int 16)) ⊕ ((Vector Int 16)))} (h : J1b b0 x4 b1 = some o) :
    rk (J1 p) J0g 0 [.lo 2 [0, 1, 4] J0p, .bl 0, .sq (.keep [0, 1] J0x)] (X (J1 p) J0p ⟨[(0, .ptr 0 0), (1, .ptr 1 0), (4, .p (.i .i64 x4))], [.box (List.map AV.p ((JO (r_i .u32)) b0)), .box (List.map AV.p ((JO (r_i .u32)) b1))]⟩) = (J3k p b0) o := by
  unfold J1b at h
  rcases J9 h with ⟨h1, h⟩ | ⟨h1, h⟩
  · try simp only [↓Da, Ua, J0p, *, ↓reduceIte, Nat.reduceEqDiff, Nat.reduceAdd, Nat.reduceLT, Nat.reduceMul]
    have e0 := JdU p h
    exact e0
  · obtain ⟨o', h', rfl⟩ := mi h
    try simp only [↓Da, Ua, J0p, *, ↓reduceIte, Nat.reduceEqDiff, Nat.reduceAdd, Nat.reduceLT, Nat.reduceMul]
    have e0 := Jfk p h'
    exact e0
def Jbj (b0 : Vector Int 16) (s : Int × (Vector Int 16)) : Option ((Vector Int 16)) :=
  JK (fun s => J1b b0 s.1 s.2) s
theorem JdW {b0 : Vector Int 16} {s : Int × (Vector Int 16)} {o : (Vector Int 16)} (h : Jbj b0 s = some o) :
    rk (J1 p) J0g 0 [.bl 0, .sq (.keep [0, 1] J0x)] (X (J1 p) (.lp 2 [0, 1, 4] J0p) ⟨[(0, .ptr 0 0), (1, .ptr 1 0), (4, .p (.i .i64 s.1))], [.box (List.map AV.p ((JO (r_i .u32)) b0)), .box (List.map AV.p ((JO (r_i .u32)) s.2))]⟩) = J4b o := by
  have h0 : JK (fun s => J1b b0 s.1 s.2) s = some o := h
  exact J10 (P := fun (s : Int × (Vector Int 16)) (o : (Vector Int 16)) => rk (J1 p) J0g 0 [.bl 0, .sq (.keep [0, 1] J0x)] (X (J1 p) (.lp 2 [0, 1, 4] J0p) ⟨[(0, .ptr 0 0), (1, .ptr 1 0), (4, .p (.i .i64 s.1))], [.box (List.map AV.p ((JO (r_i .u32)) b0)), .box (List.map AV.p ((JO (r_i .u32)) s.2))]⟩) = J4b o) (fun s r hs => by rw [J0Z]; exact JaR p hs) (fun s s1 r hs ih => by rw [J0Z]; exact (JaR p hs).trans ih) h0
def J35  : Option ((Vector Int 16)) :=
  Jbj (Vector.replicate 16 0) (0, (Vector.replicate 16 0))
theorem Je3  {o : (Vector Int 16)} (h : J35 = some o) :
    rk (J1 p) J0g 0 [] (X (J1 p) J5D ⟨[], []⟩) = J4b o := by
  unfold J35 at h
  try simp only [↓Da, Ua, J5D, J7J, ↓reduceIte, Nat.reduceEqDiff, Nat.reduceAdd, Nat.reduceLT, Nat.reduceMul]
  have e0 := JdW p h
  exact e0
theorem Jgj  {o : (Vector Int 16)} (h : J35 = some o) : AF (J1 p) J4d [] [] = J4b o :=
  (J0j (J1 p) (Jgh p) rfl).trans (Je3 p h)
theorem Jgu  {o : (Vector Int 16)} (h : J35 = some o) : ∀ ws new st, (Jq (AF (J1 p)) J4d ([], ws) 0 new).run st = some ⟨.data ((JO (r_i .u32)) o), ws⟩ := Jz rfl (Jgj p h) rfl
def JeE  (r : Bool) : Option Res := some (.p (.b r), [])
def J4e (x0 : Int) (x1 : Jg) : Option (Bool) :=
  if (decide (x0 ≥ 0)) then
    some (decide (x0 < x1.LSN))
  else
    some false
theorem JgG {x0 : Int} {x1 : Jg} {o : Bool} (h : J4e x0 x1 = some o) :
    rk (J1 p) J6H 0 [] (X (J1 p) J6J ⟨[(0, .p (.i .i64 x0)), (1, .data (J7 x1))], []⟩) = JeE o := by
  unfold J4e at h
  rcases J9 h with ⟨h1, h⟩ | ⟨h1, h⟩
  · obtain rfl := sj h
    try simp only [↓Da, Ua, J6J, J3, JL, J0z, JeC, *, ↓reduceIte, Nat.reduceEqDiff, Nat.reduceAdd, Nat.reduceLT, Nat.reduceMul]
    rfl
  · obtain rfl := sj h
    try simp only [↓Da, Ua, J6J, J3, JL, J0z, JeC, *, ↓reduceIte, Nat.reduceEqDiff, Nat.reduceAdd, Nat.reduceLT, Nat.reduceMul]
    rfl
theorem JkW {x0 : Int} {x1 : Jg} {o : Bool} (h : J4e x0 x1 = some o) : AF (J1 p) J4f [.p (.i .i64 x0), .data (J7 x1)] [] = JeE o :=
  (J0j (J1 p) (Jlh p) rfl).trans (JgG p h)
theorem Jbz {x0 : Int} {x1 : Jg} {o : Bool} (h : J4e x0 x1 = some o) : ∀ ws new st, (Jq (AF (J1 p)) J4f ([.p (.i .i64 x0), .data (J7 x1)], ws) 0 new).run st = some ⟨.p (.b o), ws⟩ := Jz rfl (JkW p h) rfl
def JfU (r : Unit) : Option Res := some (.agg [.p (.b false), .p (.b false), .p (.b false), .p (.b false), .p (.b false), .p .nf, .p .nf, .p (.b true), .p (.b false), .p (.b true), .p (.b false), .p (.b false), .fn JD [] [], .fn J0I [] [], .p (.b true), .p (.b true), .p (.b true), .p (.b true), .p (.b false), .fn J1F [] [], .fn J0I [] [], .p (.b true), .p (.b true), .p (.b false), .p (.b false), .p (.b false), .fn JD [] [], .fn J0s [] [], .p (.b true), .p (.b true), .p (.b false), .p (.b false), .p (.b false), .fn JD [] [], .fn J0s [] [], .p (.b true), .p (.b true), .p (.b false), .p (.b false), .p (.b false), .fn JD [] [], .fn J0s [] [], .p (.b false), .p (.b false), .p (.b false), .p (.b false), .p (.b true), .fn JD [] [], .fn J0s [] [], .p (.b false), .p (.b false), .p (.b false), .p (.b true), .p (.b false), .fn JD [] [], .fn J1E [] [], .p (.b false), .p (.b false), .p (.b false), .p (.b false), .p (.b true), .fn JD [] [], .fn J0s [] []], [])
def J7u  : Option (Unit) :=
  some ()
theorem Ji5  {o : Unit} (h : J7u = some o) :
    rk (J1 p) J7l 0 [] (X (J1 p) J8P ⟨[], []⟩) = JfU o := by
  unfold J7u at h
  obtain rfl := sj h
  try simp only [↓Da, Ua, J8P, Jn8, ↓reduceIte, Nat.reduceEqDiff, Nat.reduceAdd, Nat.reduceLT, Nat.reduceMul]
  rfl
theorem JmD  {o : Unit} (h : J7u = some o) : AF (J1 p) J60 [] [] = JfU o :=
  (J0j (J1 p) (Jn7 p) rfl).trans (Ji5 p h)
theorem Jn5 {o : Unit} (h : J7u = some o) : ∀ ws new st, (Jq (AF (J1 p)) J60 ([], ws) 0 new).run st = some ⟨.agg [.p (.b false), .p (.b false), .p (.b false), .p (.b false), .p (.b false), .p .nf, .p .nf, .p (.b true), .p (.b false), .p (.b true), .p (.b false), .p (.b false), .fn JD [] [], .fn J0I [] [], .p (.b true), .p (.b true), .p (.b true), .p (.b true), .p (.b false), .fn J1F [] [], .fn J0I [] [], .p (.b true), .p (.b true), .p (.b false), .p (.b false), .p (.b false), .fn JD [] [], .fn J0s [] [], .p (.b true), .p (.b true), .p (.b false), .p (.b false), .p (.b false), .fn JD [] [], .fn J0s [] [], .p (.b true), .p (.b true), .p (.b false), .p (.b false), .p (.b false), .fn JD [] [], .fn J0s [] [], .p (.b false), .p (.b false), .p (.b false), .p (.b false), .p (.b true), .fn JD [] [], .fn J0s [] [], .p (.b false), .p (.b false), .p (.b false), .p (.b true), .p (.b false), .fn JD [] [], .fn J1E [] [], .p (.b false), .p (.b false), .p (.b false), .p (.b false), .p (.b true), .fn JD [] [], .fn J0s [] []], ws⟩ :=
  Jte rfl (JmD p h) (fun _ => rfl)
def J1V (x0 : List T_api_Row) : Option (List T_api_Row) := if (2 * x0.length + 512) * 24 ≤ 281474976710656 then some x0 else none
theorem Jbe {x0 : List T_api_Row} {o : List T_api_Row} (h : J1V x0 = some o) : AF (J1 p) J1f [.p (.sl 3 (List.map Je x0))] [] = some (.slr 0 0 o.length, [.arr true 3 (List.map Je o)]) := by
  unfold J1V at h
  split at h
  · rename_i h2
    injection h with h; subst h
    rw [JuS _ (Jbb p)]
    cases x0 with
    | nil => simp [J1X, JcA, Jf1, JaX.af]
    | cons a r =>
      simp at h2
      simp [J1X, JcA, Jf1, JaX.af, h2]
  · cases h
def Jcc  (r : Bool) : Option Res := some (.p (.b r), [])
def J0P (x0 : J8) : Option (Bool) :=
  if (decide (((List.length x0.Data : Nat) : Int) ≤ 12)) then
    if x0.Set then
      some true
    else
      some (x0.Data == [])
  else
    some false
theorem Jer {x0 : J8} {o : Bool} (h : J0P x0 = some o) :
    rk (J1 p) J4H 0 [] (X (J1 p) J2R ⟨[(0, .data (Jh x0))], []⟩) = Jcc o := by
  unfold J0P at h
  rcases J9 h with ⟨h1, h⟩ | ⟨h1, h⟩
  · try simp only [↓Da, Ua, J2R, J3, *, ↓reduceIte, Nat.reduceEqDiff, Nat.reduceAdd, Nat.reduceLT, Nat.reduceMul]
    rcases J9 h with ⟨h2, h⟩ | ⟨h2, h⟩
    · obtain rfl := sj h
      try simp only [↓Da, Ua, J2R, J3, Ja1, *, ↓reduceIte, Nat.reduceEqDiff, Nat.reduceAdd, Nat.reduceLT, Nat.reduceMul]
      rfl
    · obtain rfl := sj h
      try simp only [↓Da, Ua, J2R, J3, Ja1, *, ↓reduceIte, Nat.reduceEqDiff, Nat.reduceAdd, Nat.reduceLT, Nat.reduceMul]
      rfl
  · obtain rfl := sj h
    try simp only [↓Da, Ua, J2R, J3, Ja1, *, ↓reduceIte, Nat.reduceEqDiff, Nat.reduceAdd, Nat.reduceLT, Nat.reduceMul]
    rfl
theorem Jia {x0 : J8} {o : Bool} (h : J0P x0 = some o) : AF (J1 p) J4I [.data (Jh x0)] [] = Jcc o :=
  (J0j (J1 p) (Jhy p) rfl).trans (Jer p h)
theorem Jib {x0 : J8} {o : Bool} (h : J0P x0 = some o) : ∀ ws new st, (Jq (AF (J1 p)) J4I ([.data (Jh x0)], ws) 0 new).run st = some ⟨.p (.b o), ws⟩ := Jz rfl (Jia p h) rfl
def JfA  (r : Int) : Option Res := some (.p (.i .i64 r), [])
def J09 (x0 : List UInt8) (x1 : Int) (x2 : Int) : Option (Int) :=
  Option.bind (J0L x0 x1 x2) fun r1 =>
  some r1.1
theorem JhG {x0 : List UInt8} {x1 : Int} {x2 : Int} {o : Int} (h : J09 x0 x1 x2 = some o) :
    rk (J1 p) J77 0 [] (X (J1 p) J8T ⟨[(0, .p (.s x0)), (1, .p (.i .i64 x1)), (2, .p (.i .i64 x2))], []⟩) = JfA o := by
  unfold J09 at h
  obtain ⟨r1, h2, h⟩ := bi h
  have f3 := Jpe p h2
  try simp only [Nf] at f3
  obtain rfl := sj h
  try simp only [↓Da, Ua, J8T, Jmx, *, ↓reduceIte, Nat.reduceEqDiff, Nat.reduceAdd, Nat.reduceLT, Nat.reduceMul]
  rfl
theorem JmJ {x0 : List UInt8} {x1 : Int} {x2 : Int} {o : Int} (h : J09 x0 x1 x2 = some o) : AF (J1 p) J40 [.p (.s x0), .p (.i .i64 x1), .p (.i .i64 x2)] [] = JfA o :=
  (J0j (J1 p) (JmK p) rfl).trans (JhG p h)
theorem Jay {x0 : List UInt8} {x1 : Int} {x2 : Int} {o : Int} (h : J09 x0 x1 x2 = some o) : ∀ ws new st, (Jq (AF (J1 p)) J40 ([.p (.s x0), .p (.i .i64 x1), .p (.i .i64 x2)], ws) 0 new).run st = some ⟨.p (.i .i64 o), ws⟩ := Jz rfl (JmJ p h) rfl
def J8Y  (r : T_api_Page × Bool) : Option Res := some (.tup [.data (J4 r.1), .p (.b r.2)], [])
def JmH (x0 : List UInt8) (b0 : T_api_Page) (o : (Int × T_api_Page) ⊕ (T_api_Page × Bool)) : Option Res := match o with
  | .inl s => rk (J1 p) J3Q 0 [.bl 0, .sq (.keep [2, 4] J5U)] (X (J1 p) (.lp 2 [0, 2, 4, 13] J2e) ⟨[(0, .p (.s x0)), (2, .ptr 0 0), (4, .ptr 1 0), (13, .p (.i .i64 s.1))], [.box (List.map AV.p (J4 b0)), .box (List.map AV.p (J4 s.2))]⟩)
  | .inr o => J8Y o
def J7m (b0 : T_api_Page) (b1 : T_api_Page) : Option (T_api_Page × Bool) :=
  some (b1, true)
theorem JmF {b0 : T_api_Page} {b1 : T_api_Page} {o : T_api_Page × Bool} (h : J7m b0 b1 = some o) :
    rk (J1 p) J3Q 0 [] (X (J1 p) J5U ⟨[(2, .ptr 0 0), (4, .ptr 1 0)], [.box (List.map AV.p (J4 b0)), .box (List.map AV.p (J4 b1))]⟩) = J8Y o := by
  unfold J7m at h
  obtain rfl := sj h
  try simp only [↓Da, Ua, J5U, J3, J2, J6, Jiu, ↓reduceIte, Nat.reduceEqDiff, Nat.reduceAdd, Nat.reduceLT, Nat.reduceMul]
  rfl
def J1C (x0 : List UInt8) (b0 : T_api_Page) (x13 : Int) (b1 : T_api_Page) : Option (((Int × T_api_Page) ⊕ (T_api_Page × Bool))) :=
  if (decide (x13 < 16)) then
    Option.bind (J09 x0 (IntKind.wrap .i64 (12 + (IntKind.wrap .i64 (x13 * 13)))) 1) fun r2 =>
    if ((r2 : Int) == 255) then
      some (.inl ((IntKind.wrap .i64 (x13 + 1)), b1))
    else
      if (decide (r2 > 12)) then
        some (.inr ((⟨0, 0, (Vector.replicate 16 (⟨false, []⟩ : J8))⟩ : T_api_Page), false))
      else
        Option.bind (J34 x0 (some (IntKind.wrap .i64 ((IntKind.wrap .i64 (12 + (IntKind.wrap .i64 (x13 * 13)))) + 1))) (some (IntKind.wrap .i64 ((IntKind.wrap .i64 ((IntKind.wrap .i64 (12 + (IntKind.wrap .i64 (x13 * 13)))) + 1)) + r2)))) fun m7 =>
        Option.bind (inb 16 x13) fun u10 =>
        Option.bind (J6Z b1.Cells x13) fun y13 =>
        some (.inl ((IntKind.wrap .i64 (x13 + 1)), (⟨b1.ID, b1.LSN, (JaE b1.Cells x13 (⟨true, m7⟩ : J8))⟩ : T_api_Page)))
  else
    Option.map (fun o => .inr o) (J7m b0 b1)
theorem JfO {x0 : List UInt8} {b0 : T_api_Page} {x13 : Int} {b1 : T_api_Page} {o : ((Int × T_api_Page) ⊕ (T_api_Page × Bool))} (h : J1C x0 b0 x13 b1 = some o) :
    rk (J1 p) J3Q 0 [.lo 2 [0, 2, 4, 13] J2e, .bl 0, .sq (.keep [2, 4] J5U)] (X (J1 p) J2e ⟨[(0, .p (.s x0)), (2, .ptr 0 0), (4, .ptr 1 0), (13, .p (.i .i64 x13))], [.box (List.map AV.p (J4 b0)), .box (List.map AV.p (J4 b1))]⟩) = (JmH p x0 b0) o := by
  unfold J1C at h
  rcases J9 h with ⟨h1, h⟩ | ⟨h1, h⟩
  · obtain ⟨r2, h3, h⟩ := bi h
    have f4 := Jay p h3
    try simp only [Nf] at f4
    try simp only [↓Da, Ua, J2e, J3, J2, J6, *, ↓reduceIte, Nat.reduceEqDiff, Nat.reduceAdd, Nat.reduceLT, Nat.reduceMul]
    rcases J9 h with ⟨h5, h⟩ | ⟨h5, h⟩
    · have h5n : ((r2 : Int) != 255) = false := by rw [bne, h5]; rfl
      obtain rfl := sj h
      try simp only [↓Da, Ua, J2e, J3, J2, J6, *, ↓reduceIte, Nat.reduceEqDiff, Nat.reduceAdd, Nat.reduceLT, Nat.reduceMul]
      rfl
    · have h5n : ((r2 : Int) != 255) = true := by rw [bne, h5]; rfl
      try simp only [↓Da, Ua, J2e, J3, J2, J6, *, ↓reduceIte, Nat.reduceEqDiff, Nat.reduceAdd, Nat.reduceLT, Nat.reduceMul]
      rcases J9 h with ⟨h6, h⟩ | ⟨h6, h⟩
      · obtain rfl := sj h
        try simp only [↓Da, Ua, J2e, J3, J2, J6, Jiu, *, ↓reduceIte, Nat.reduceEqDiff, Nat.reduceAdd, Nat.reduceLT, Nat.reduceMul]
        rfl
      · obtain ⟨m7, h8, h⟩ := bi h
        have f9 : J36 (.p (.s x0)) (some (.p (.i .i64 (IntKind.wrap .i64 ((IntKind.wrap .i64 (12 + (IntKind.wrap .i64 (x13 * 13)))) + 1))))) (some (.p (.i .i64 (IntKind.wrap .i64 ((IntKind.wrap .i64 ((IntKind.wrap .i64 (12 + (IntKind.wrap .i64 (x13 * 13)))) + 1)) + r2))))) = some (.p (.s m7)) := J4c (k := .i64) (lo := (some (IntKind.wrap .i64 ((IntKind.wrap .i64 (12 + (IntKind.wrap .i64 (x13 * 13)))) + 1)))) (hi := (some (IntKind.wrap .i64 ((IntKind.wrap .i64 ((IntKind.wrap .i64 (12 + (IntKind.wrap .i64 (x13 * 13)))) + 1)) + r2)))) h8
        try simp only [Nf] at f9
        obtain ⟨u10, h11, h⟩ := bi h
        have f12 : (0 ≤ (x13 : Int) ∧ (x13 : Int) < ((16 : Nat) : Int)) = True := eq_true (J8h h11)
        obtain ⟨y13, h14, h⟩ := bi h
        have f15 : spl (J4 b1) (2 + Int.toNat x13 * 2) (Jh (⟨true, m7⟩ : J8)) = some (J4 (⟨b1.ID, b1.LSN, (JaE b1.Cells x13 (⟨true, m7⟩ : J8))⟩ : T_api_Page)) := by
          have e0 := (Jlf (J1v b1) (JjR (v := b1.Cells) JI (Jhp h14) (⟨true, m7⟩ : J8)) (J7F b1 _))
          exact e0
        try simp only [Nf] at f15
        obtain rfl := sj h
        try simp only [↓Da, Ua, J2e, J3, J2, J6, *, ↓reduceIte, Nat.reduceEqDiff, Nat.reduceAdd, Nat.reduceLT, Nat.reduceMul]
        rfl
  · obtain ⟨o', h', rfl⟩ := mi h
    try simp only [↓Da, Ua, J2e, J3, J2, J6, *, ↓reduceIte, Nat.reduceEqDiff, Nat.reduceAdd, Nat.reduceLT, Nat.reduceMul]
    have e0 := JmF p h'
    exact e0
def Jap (x0 : List UInt8) (b0 : T_api_Page) (s : Int × T_api_Page) : Option (T_api_Page × Bool) :=
  JK (fun s => J1C x0 b0 s.1 s.2) s
theorem JkH {x0 : List UInt8} {b0 : T_api_Page} {s : Int × T_api_Page} {o : T_api_Page × Bool} (h : Jap x0 b0 s = some o) :
    rk (J1 p) J3Q 0 [.bl 0, .sq (.keep [2, 4] J5U)] (X (J1 p) (.lp 2 [0, 2, 4, 13] J2e) ⟨[(0, .p (.s x0)), (2, .ptr 0 0), (4, .ptr 1 0), (13, .p (.i .i64 s.1))], [.box (List.map AV.p (J4 b0)), .box (List.map AV.p (J4 s.2))]⟩) = J8Y o := by
  have h0 : JK (fun s => J1C x0 b0 s.1 s.2) s = some o := h
  exact J10 (P := fun (s : Int × T_api_Page) (o : T_api_Page × Bool) => rk (J1 p) J3Q 0 [.bl 0, .sq (.keep [2, 4] J5U)] (X (J1 p) (.lp 2 [0, 2, 4, 13] J2e) ⟨[(0, .p (.s x0)), (2, .ptr 0 0), (4, .ptr 1 0), (13, .p (.i .i64 s.1))], [.box (List.map AV.p (J4 b0)), .box (List.map AV.p (J4 s.2))]⟩) = J8Y o) (fun s r hs => by rw [J0Z]; exact JfO p hs) (fun s s1 r hs ih => by rw [J0Z]; exact (JfO p hs).trans ih) h0
def J6p (x0 : List UInt8) : Option (T_api_Page × Bool) :=
  Option.bind (J09 x0 8 4) fun r1 =>
  Option.bind (J09 x0 0 8) fun r4 =>
  Jap x0 (⟨0, 0, (Vector.replicate 16 (⟨false, []⟩ : J8))⟩ : T_api_Page) (0, (⟨r1, r4, (Vector.replicate 16 (⟨false, []⟩ : J8))⟩ : T_api_Page))
theorem JjT {x0 : List UInt8} {o : T_api_Page × Bool} (h : J6p x0 = some o) :
    rk (J1 p) J3Q 0 [] (X (J1 p) Jac ⟨[(0, .p (.s x0))], []⟩) = J8Y o := by
  unfold J6p at h
  obtain ⟨r1, h2, h⟩ := bi h
  have f3 := Jay p h2
  try simp only [Nf] at f3
  obtain ⟨r4, h5, h⟩ := bi h
  have f6 := Jay p h5
  try simp only [Nf] at f6
  try simp only [↓Da, Ua, Jac, J3, J2, J6, *, ↓reduceIte, Nat.reduceEqDiff, Nat.reduceAdd, Nat.reduceLT, Nat.reduceMul]
  have e0 := JkH p h
  exact e0
theorem JoR {x0 : List UInt8} {o : T_api_Page × Bool} (h : J6p x0 = some o) : AF (J1 p) J90 [.p (.s x0)] [] = J8Y o :=
  (J0j (J1 p) (JpC p) rfl).trans (JjT p h)
theorem JoU {x0 : List UInt8} {o : T_api_Page × Bool} (h : J6p x0 = some o) : ∀ ws new st, (Jq (AF (J1 p)) J90 ([.p (.s x0)], ws) 0 new).run st = some ⟨.tup [.data (J4 o.1), .p (.b o.2)], ws⟩ := Jz rfl (JoR p h) rfl
def Jde  (r : Bool) : Option Res := some (.p (.b r), [])
def J2v (x0 : Jg) : Option (Bool) :=
  some true
theorem JeP {x0 : Jg} {o : Bool} (h : J2v x0 = some o) :
    rk (J1 p) J5l 0 [] (X (J1 p) J6P ⟨[(0, .data (J7 x0))], []⟩) = Jde o := by
  unfold J2v at h
  obtain rfl := sj h
  try simp only [↓Da, Ua, J6P, J3, JL, J0z, JjA, ↓reduceIte, Nat.reduceEqDiff, Nat.reduceAdd, Nat.reduceLT, Nat.reduceMul]
  rfl
theorem JiB {x0 : Jg} {o : Bool} (h : J2v x0 = some o) : AF (J1 p) JD [.data (J7 x0)] [] = Jde o :=
  (J0j (J1 p) (JiK p) rfl).trans (JeP p h)
theorem J8r {x0 : Jg} {o : Bool} (h : J2v x0 = some o) : ∀ ws new st, (Jq (AF (J1 p)) JD ([.data (J7 x0)], ws) 0 new).run st = some ⟨.p (.b o), ws⟩ := Jz rfl (JiB p h) rfl
def Jgs  (r : Bool) : Option Res := some (.p (.b r), [])
def J8n (x0 : Js) : Option (Bool) :=
  some (x0 == (⟨0, 0, (⟨false, ([] : List UInt8)⟩ : J8), (⟨false, ([] : List UInt8)⟩ : J8)⟩ : Js))
theorem JiO {x0 : Js} {o : Bool} (h : J8n x0 = some o) :
    rk (J1 p) J8k 0 [] (X (J1 p) J9v ⟨[(0, .data (Jf x0))], []⟩) = Jgs o := by
  unfold J8n at h
  obtain rfl := sj h
  try simp only [↓Da, Ua, J9v, J3, JL, J6L, Jo2, ↓reduceIte, Nat.reduceEqDiff, Nat.reduceAdd, Nat.reduceLT, Nat.reduceMul]
  rfl
theorem JnV {x0 : Js} {o : Bool} (h : J8n x0 = some o) : AF (J1 p) J0s [.data (Jf x0)] [] = Jgs o :=
  (J0j (J1 p) (Joe p) rfl).trans (JiO p h)
theorem Jgt {x0 : Js} {o : Bool} (h : J8n x0 = some o) : ∀ ws new st, (Jq (AF (J1 p)) J0s ([.data (Jf x0)], ws) 0 new).run st = some ⟨.p (.b o), ws⟩ := Jz rfl (JnV p h) rfl
def JcY  (r : Bool) : Option Res := some (.p (.b r), [])
def J6Q (x0 : Jg) : Option (Bool) :=
  if (decide (x0.Ref ≥ 1)) then
    some (decide (x0.Ref ≤ x0.PrevTx))
  else
    some false
theorem Jf7 {x0 : Jg} {o : Bool} (h : J6Q x0 = some o) :
    rk (J1 p) J5o 0 [] (X (J1 p) J5u ⟨[(0, .data (J7 x0))], []⟩) = JcY o := by
  unfold J6Q at h
  rcases J9 h with ⟨h1, h⟩ | ⟨h1, h⟩
  · obtain rfl := sj h
    try simp only [↓Da, Ua, J5u, J3, JL, J0z, Jd8, *, ↓reduceIte, Nat.reduceEqDiff, Nat.reduceAdd, Nat.reduceLT, Nat.reduceMul]
    rfl
  · obtain rfl := sj h
    try simp only [↓Da, Ua, J5u, J3, JL, J0z, Jd8, *, ↓reduceIte, Nat.reduceEqDiff, Nat.reduceAdd, Nat.reduceLT, Nat.reduceMul]
    rfl
theorem Jjq {x0 : Jg} {o : Bool} (h : J6Q x0 = some o) : AF (J1 p) J1F [.data (J7 x0)] [] = JcY o :=
  (J0j (J1 p) (Jjz p) rfl).trans (Jf7 p h)
theorem Jj1 {x0 : Jg} {o : Bool} (h : J6Q x0 = some o) : ∀ ws new st, (Jq (AF (J1 p)) J1F ([.data (J7 x0)], ws) 0 new).run st = some ⟨.p (.b o), ws⟩ := Jz rfl (Jjq p h) rfl
def Jd9  (r : Bool) : Option Res := some (.p (.b r), [])
def J5v (x0 : Js) : Option (Bool) :=
  if (x0 == (⟨x0.Page, 0, (⟨false, ([] : List UInt8)⟩ : J8), (⟨false, ([] : List UInt8)⟩ : J8)⟩ : Js)) then
    if (decide (x0.Page ≥ 0)) then
      some (decide (x0.Page < 64))
    else
      some false
  else
    some false
theorem Jfo {x0 : Js} {o : Bool} (h : J5v x0 = some o) :
    rk (J1 p) J5k 0 [] (X (J1 p) J2z ⟨[(0, .data (Jf x0))], []⟩) = Jd9 o := by
  unfold J5v at h
  try simp only [↓Da, Ua, J2z, J3, JL, J6L, ↓reduceIte, Nat.reduceEqDiff, Nat.reduceAdd, Nat.reduceLT, Nat.reduceMul]
  rcases J9 h with ⟨h2, h⟩ | ⟨h2, h⟩
  · try simp only [↓Da, Ua, J2z, J3, JL, J6L, *, ↓reduceIte, Nat.reduceEqDiff, Nat.reduceAdd, Nat.reduceLT, Nat.reduceMul]
    rcases J9 h with ⟨h3, h⟩ | ⟨h3, h⟩
    · obtain rfl := sj h
      try simp only [↓Da, Ua, J2z, J3, JL, J6L, JaD, *, ↓reduceIte, Nat.reduceEqDiff, Nat.reduceAdd, Nat.reduceLT, Nat.reduceMul]
      rfl
    · obtain rfl := sj h
      try simp only [↓Da, Ua, J2z, J3, JL, J6L, JaD, *, ↓reduceIte, Nat.reduceEqDiff, Nat.reduceAdd, Nat.reduceLT, Nat.reduceMul]
      rfl
  · obtain rfl := sj h
    try simp only [↓Da, Ua, J2z, J3, JL, J6L, JaD, *, ↓reduceIte, Nat.reduceEqDiff, Nat.reduceAdd, Nat.reduceLT, Nat.reduceMul]
    rfl
theorem Jjn {x0 : Js} {o : Bool} (h : J5v x0 = some o) : AF (J1 p) J1E [.data (Jf x0)] [] = Jd9 o :=
  (J0j (J1 p) (JiM p) rfl).trans (Jfo p h)
theorem Jjv {x0 : Js} {o : Bool} (h : J5v x0 = some o) : ∀ ws new st, (Jq (AF (J1 p)) J1E ([.data (Jf x0)], ws) 0 new).run st = some ⟨.p (.b o), ws⟩ := Jz rfl (Jjn p h) rfl
def JeB  (r : Bool) : Option Res := some (.p (.b r), [])
def J8d (x0 : Int) : Option (Bool) :=
  if (decide (x0 ≥ 0)) then
    some (decide (x0 < 64))
  else
    some false
theorem Jh5 {x0 : Int} {o : Bool} (h : J8d x0 = some o) :
    rk (J1 p) J6A 0 [] (X (J1 p) J6B ⟨[(0, .p (.i .i64 x0))], []⟩) = JeB o := by
  unfold J8d at h
  rcases J9 h with ⟨h1, h⟩ | ⟨h1, h⟩
  · obtain rfl := sj h
    try simp only [↓Da, Ua, J6B, Jel, *, ↓reduceIte, Nat.reduceEqDiff, Nat.reduceAdd, Nat.reduceLT, Nat.reduceMul]
    rfl
  · obtain rfl := sj h
    try simp only [↓Da, Ua, J6B, Jel, *, ↓reduceIte, Nat.reduceEqDiff, Nat.reduceAdd, Nat.reduceLT, Nat.reduceMul]
    rfl
theorem Jll {x0 : Int} {o : Bool} (h : J8d x0 = some o) : AF (J1 p) J6E [.p (.i .i64 x0)] [] = JeB o :=
  (J0j (J1 p) (Jl4 p) rfl).trans (Jh5 p h)
theorem Jlj {x0 : Int} {o : Bool} (h : J8d x0 = some o) : ∀ ws new st, (Jq (AF (J1 p)) J6E ([.p (.i .i64 x0)], ws) 0 new).run st = some ⟨.p (.b o), ws⟩ := Jz rfl (Jll p h) rfl
def JbS  (r : Bool) : Option Res := some (.p (.b r), [])
def J4n (x0 : J8) : Option (Bool) :=
  if (decide (((List.length x0.Data : Nat) : Int) ≤ 12)) then
    if x0.Set then
      some true
    else
      some (x0.Data == [])
  else
    some false
theorem JdQ {x0 : J8} {o : Bool} (h : J4n x0 = some o) :
    rk (J1 p) J4m 0 [] (X (J1 p) J2s ⟨[(0, .data (Jh x0))], []⟩) = JbS o := by
  unfold J4n at h
  rcases J9 h with ⟨h1, h⟩ | ⟨h1, h⟩
  · try simp only [↓Da, Ua, J2s, J3, *, ↓reduceIte, Nat.reduceEqDiff, Nat.reduceAdd, Nat.reduceLT, Nat.reduceMul]
    rcases J9 h with ⟨h2, h⟩ | ⟨h2, h⟩
    · obtain rfl := sj h
      try simp only [↓Da, Ua, J2s, J3, J9B, *, ↓reduceIte, Nat.reduceEqDiff, Nat.reduceAdd, Nat.reduceLT, Nat.reduceMul]
      rfl
    · obtain rfl := sj h
      try simp only [↓Da, Ua, J2s, J3, J9B, *, ↓reduceIte, Nat.reduceEqDiff, Nat.reduceAdd, Nat.reduceLT, Nat.reduceMul]
      rfl
  · obtain rfl := sj h
    try simp only [↓Da, Ua, J2s, J3, J9B, *, ↓reduceIte, Nat.reduceEqDiff, Nat.reduceAdd, Nat.reduceLT, Nat.reduceMul]
    rfl
theorem Jgk {x0 : J8} {o : Bool} (h : J4n x0 = some o) : AF (J1 p) J37 [.data (Jh x0)] [] = JbS o :=
  (J0j (J1 p) (Jh1 p) rfl).trans (JdQ p h)
theorem JbQ {x0 : J8} {o : Bool} (h : J4n x0 = some o) : ∀ ws new st, (Jq (AF (J1 p)) J37 ([.data (Jh x0)], ws) 0 new).run st = some ⟨.p (.b o), ws⟩ := Jz rfl (Jgk p h) rfl
def Jbv  (r : (List UInt8) × T_pagemenddraw_Codes) : Option Res := some (.p (.s r.1), [.box (List.map AV.p (J0 r.2))])
def J3I (b0 : T_pagemenddraw_Codes) (x1 : List UInt8) : Option ((List UInt8) × T_pagemenddraw_Codes) :=
  if ((((List.length x1 : Nat) : Int) : Int) == 0) then
    Option.bind (Jv b0 256) fun r2 =>
    some ((toStr ([(IntKind.wrap .u8 r2.1)] : List Int)), r2.2)
  else
    Option.bind (Jv b0 ((List.length x1 : Nat) : Int)) fun r6 =>
    Option.bind (Jv r6.2 4) fun r9 =>
    if ((r9.1 : Int) == 0) then
      Option.bind (J34 x1 none (some r6.1)) fun m13 =>
      Option.bind (J34 x1 (some (IntKind.wrap .i64 (r6.1 + 1))) none) fun m16 =>
      Option.bind (J4a m13 m16) fun s19 =>
      some (s19, r9.2)
    else
      if ((r9.1 : Int) == 1) then
        Option.bind (Jv r9.2 256) fun r22 =>
        Option.bind (J4a x1 (toStr ([(IntKind.wrap .u8 r22.1)] : List Int))) fun s26 =>
        some (s26, r22.2)
      else
        Option.bind (J34 x1 none (some r6.1)) fun m28 =>
        Option.bind (Jd6 x1 r6.1) fun c31 =>
        Option.bind (Jv r9.2 255) fun r33 =>
        Option.bind (J4a m28 (toStr ([(J5S .u8 c31 (IntKind.wrap .u8 (IntKind.wrap .i64 (1 + r33.1))))] : List Int))) fun s37 =>
        Option.bind (J34 x1 (some (IntKind.wrap .i64 (r6.1 + 1))) none) fun m39 =>
        Option.bind (J4a s37 m39) fun s42 =>
        some (s42, r33.2)
theorem Jdk {b0 : T_pagemenddraw_Codes} {x1 : List UInt8} {o : (List UInt8) × T_pagemenddraw_Codes} (h : J3I b0 x1 = some o) :
    rk (J1 p) J3O 1 [] (X (J1 p) J1i ⟨[(0, .ptr 0 0), (1, .p (.s x1))], [.box (List.map AV.p (J0 b0))]⟩) = Jbv o := by
  unfold J3I at h
  rcases J9 h with ⟨h1, h⟩ | ⟨h1, h⟩
  · have h1n : ((((List.length x1 : Nat) : Int) : Int) != 0) = false := by rw [bne, h1]; rfl
    obtain ⟨r2, h3, h⟩ := bi h
    have f4 : ∀ ws new s, JP ws s [0] [List.map AV.p (J0 b0)] → (Jq (AF (J1 p)) Jc ([.ptr 0 0, .p (.i .i64 256)], ws) 0 new).run s = some ⟨.p (.i .i64 r2.1), ws ++ [(0, .box (List.map AV.p (J0 r2.2)))]⟩ := JG (args' := [.ptr 0 0, .p (.i .i64 256)]) (bs := [0]) (css := [List.map AV.p (J0 b0)]) (css' := [List.map AV.p (J0 r2.2)]) rfl rfl rfl (by simp [Jo, Jb]) (JC p h3) rfl rfl (by simp [Jo, Jb])
    try simp only [Nf] at f4
    have f5 : ∀ env sto new, (cvR .toStr (.p (.sl 1 (List.map (r_i .u8) ([(IntKind.wrap .u8 r2.1)] : List Int)))) new).run ⟨env, sto⟩ = some ⟨.p (.s (toStr ([(IntKind.wrap .u8 r2.1)] : List Int))), []⟩ := fun env sto new => Jox env sto _ new
    try simp only [Nf] at f5
    obtain rfl := sj h
    try simp only [↓Da, Ua, J1i, Jl, J6V, *, ↓reduceIte, Nat.reduceEqDiff, Nat.reduceAdd, Nat.reduceLT, Nat.reduceMul]
    rfl
  · have h1n : ((((List.length x1 : Nat) : Int) : Int) != 0) = true := by rw [bne, h1]; rfl
    obtain ⟨r6, h7, h⟩ := bi h
    have f8 : ∀ ws new s, JP ws s [0] [List.map AV.p (J0 b0)] → (Jq (AF (J1 p)) Jc ([.ptr 0 0, .p (.i .i64 ((List.length x1 : Nat) : Int))], ws) 0 new).run s = some ⟨.p (.i .i64 r6.1), ws ++ [(0, .box (List.map AV.p (J0 r6.2)))]⟩ := JG (args' := [.ptr 0 0, .p (.i .i64 ((List.length x1 : Nat) : Int))]) (bs := [0]) (css := [List.map AV.p (J0 b0)]) (css' := [List.map AV.p (J0 r6.2)]) rfl rfl rfl (by simp [Jo, Jb]) (JC p h7) rfl rfl (by simp [Jo, Jb])
    try simp only [Nf] at f8
    obtain ⟨r9, h10, h⟩ := bi h
    have f11 : ∀ ws new s, JP ws s [0] [List.map AV.p (J0 r6.2)] → (Jq (AF (J1 p)) Jc ([.ptr 0 0, .p (.i .i64 4)], ws) 0 new).run s = some ⟨.p (.i .i64 r9.1), ws ++ [(0, .box (List.map AV.p (J0 r9.2)))]⟩ := JG (args' := [.ptr 0 0, .p (.i .i64 4)]) (bs := [0]) (css := [List.map AV.p (J0 r6.2)]) (css' := [List.map AV.p (J0 r9.2)]) rfl rfl rfl (by simp [Jo, Jb]) (JC p h10) rfl rfl (by simp [Jo, Jb])
    try simp only [Nf] at f11
    try simp only [↓Da, Ua, J1i, Jl, *, ↓reduceIte, Nat.reduceEqDiff, Nat.reduceAdd, Nat.reduceLT, Nat.reduceMul]
    rcases J9 h with ⟨h12, h⟩ | ⟨h12, h⟩
    · have h12n : ((r9.1 : Int) != 0) = false := by rw [bne, h12]; rfl
      obtain ⟨m13, h14, h⟩ := bi h
      have f15 : J36 (.p (.s x1)) none (some (.p (.i .i64 r6.1))) = some (.p (.s m13)) := J4c (k := .i64) (lo := none) (hi := (some r6.1)) h14
      try simp only [Nf] at f15
      obtain ⟨m16, h17, h⟩ := bi h
      have f18 : J36 (.p (.s x1)) (some (.p (.i .i64 (IntKind.wrap .i64 (r6.1 + 1))))) none = some (.p (.s m16)) := J4c (k := .i64) (lo := (some (IntKind.wrap .i64 (r6.1 + 1)))) (hi := none) h17
      try simp only [Nf] at f18
      obtain ⟨s19, h20, h⟩ := bi h
      obtain rfl := sj h
      try simp only [↓Da, Ua, J1i, Jl, J6V, *, ↓reduceIte, Nat.reduceEqDiff, Nat.reduceAdd, Nat.reduceLT, Nat.reduceMul]
      rfl
    · have h12n : ((r9.1 : Int) != 0) = true := by rw [bne, h12]; rfl
      try simp only [↓Da, Ua, J1i, Jl, *, ↓reduceIte, Nat.reduceEqDiff, Nat.reduceAdd, Nat.reduceLT, Nat.reduceMul]
      rcases J9 h with ⟨h21, h⟩ | ⟨h21, h⟩
      · have h21n : ((r9.1 : Int) != 1) = false := by rw [bne, h21]; rfl
        obtain ⟨r22, h23, h⟩ := bi h
        have f24 : ∀ ws new s, JP ws s [0] [List.map AV.p (J0 r9.2)] → (Jq (AF (J1 p)) Jc ([.ptr 0 0, .p (.i .i64 256)], ws) 0 new).run s = some ⟨.p (.i .i64 r22.1), ws ++ [(0, .box (List.map AV.p (J0 r22.2)))]⟩ := JG (args' := [.ptr 0 0, .p (.i .i64 256)]) (bs := [0]) (css := [List.map AV.p (J0 r9.2)]) (css' := [List.map AV.p (J0 r22.2)]) rfl rfl rfl (by simp [Jo, Jb]) (JC p h23) rfl rfl (by simp [Jo, Jb])
        try simp only [Nf] at f24
        have f25 : ∀ env sto new, (cvR .toStr (.p (.sl 1 (List.map (r_i .u8) ([(IntKind.wrap .u8 r22.1)] : List Int)))) new).run ⟨env, sto⟩ = some ⟨.p (.s (toStr ([(IntKind.wrap .u8 r22.1)] : List Int))), []⟩ := fun env sto new => Jox env sto _ new
        try simp only [Nf] at f25
        obtain ⟨s26, h27, h⟩ := bi h
        obtain rfl := sj h
        try simp only [↓Da, Ua, J1i, Jl, J6V, *, ↓reduceIte, Nat.reduceEqDiff, Nat.reduceAdd, Nat.reduceLT, Nat.reduceMul]
        rfl
      · have h21n : ((r9.1 : Int) != 1) = true := by rw [bne, h21]; rfl
        obtain ⟨m28, h29, h⟩ := bi h
        have f30 : J36 (.p (.s x1)) none (some (.p (.i .i64 r6.1))) = some (.p (.s m28)) := J4c (k := .i64) (lo := none) (hi := (some r6.1)) h29
        try simp only [Nf] at f30
        obtain ⟨c31, h32, h⟩ := bi h
        obtain ⟨r33, h34, h⟩ := bi h
        have f35 : ∀ ws new s, JP ws s [0] [List.map AV.p (J0 r9.2)] → (Jq (AF (J1 p)) Jc ([.ptr 0 0, .p (.i .i64 255)], ws) 0 new).run s = some ⟨.p (.i .i64 r33.1), ws ++ [(0, .box (List.map AV.p (J0 r33.2)))]⟩ := JG (args' := [.ptr 0 0, .p (.i .i64 255)]) (bs := [0]) (css := [List.map AV.p (J0 r9.2)]) (css' := [List.map AV.p (J0 r33.2)]) rfl rfl rfl (by simp [Jo, Jb]) (JC p h34) rfl rfl (by simp [Jo, Jb])
        try simp only [Nf] at f35
        have f36 : ∀ env sto new, (cvR .toStr (.p (.sl 1 (List.map (r_i .u8) ([(J5S .u8 c31 (IntKind.wrap .u8 (IntKind.wrap .i64 (1 + r33.1))))] : List Int)))) new).run ⟨env, sto⟩ = some ⟨.p (.s (toStr ([(J5S .u8 c31 (IntKind.wrap .u8 (IntKind.wrap .i64 (1 + r33.1))))] : List Int))), []⟩ := fun env sto new => Jox env sto _ new
        try simp only [Nf] at f36
        obtain ⟨s37, h38, h⟩ := bi h
        obtain ⟨m39, h40, h⟩ := bi h
        have f41 : J36 (.p (.s x1)) (some (.p (.i .i64 (IntKind.wrap .i64 (r6.1 + 1))))) none = some (.p (.s m39)) := J4c (k := .i64) (lo := (some (IntKind.wrap .i64 (r6.1 + 1)))) (hi := none) h40
        try simp only [Nf] at f41
        obtain ⟨s42, h43, h⟩ := bi h
        obtain rfl := sj h
        try simp only [↓Da, Ua, J1i, Jl, J6V, *, ↓reduceIte, Nat.reduceEqDiff, Nat.reduceAdd, Nat.reduceLT, Nat.reduceMul]
        rfl
theorem Jg3 {b0 : T_pagemenddraw_Codes} {x1 : List UInt8} {o : (List UInt8) × T_pagemenddraw_Codes} (h : J3I b0 x1 = some o) : AF (J1 p) J3N [.ptr 0 0, .p (.s x1)] [.box (List.map AV.p (J0 b0))] = Jbv o :=
  (J0j (J1 p) (Jgd p) rfl).trans (Jdk p h)
end
end Go.Am
end
section
namespace Go.Am
set_option maxRecDepth 8000
set_option maxHeartbeats 4000000
set_option linter.unusedSimpArgs false
set_option linter.unusedVariables false
noncomputable section
variable (p : FuncId → Option (List AV → List Blk → Option Res))
def J7t  (r : T_api_Index × T_pagemenddraw_Codes) : Option Res := some (.data (Jj r.1), [.box (List.map AV.p (J0 r.2))])
def Jds (b1 : T_api_Index) (o : (Int × T_pagemenddraw_Codes × (List T_api_Row)) ⊕ (T_api_Index × T_pagemenddraw_Codes)) : Option Res := match o with
  | .inl s => rk (J1 p) J2f 1 [.bl 0, .sq (.keep [2, 3] J3B)] (X (J1 p) (.lp 4 [0, 2, 3, 5] J1Y) ⟨[(0, .ptr 0 0), (2, .ptr 1 0), (3, .ptr 3 0), (5, .p (.i .i64 s.1))], [.box (List.map AV.p (J0 s.2.1)), .box (List.map AV.p (Jj b1)), .arr true 3 (List.map Je s.2.2), .box [.slr 2 0 (List.length s.2.2)]]⟩)
  | .inr o => J7t o
def J5L (x5 : Int) (b0 : T_pagemenddraw_Codes) (b1 : T_api_Index) (l2 : List T_api_Row) : Option (((Int × T_pagemenddraw_Codes × (List T_api_Row)) ⊕ (T_api_Index × T_pagemenddraw_Codes))) :=
  some (.inl ((IntKind.wrap .i64 (x5 + 1)), b0, l2))
theorem Jdv {x5 : Int} {b0 : T_pagemenddraw_Codes} {b1 : T_api_Index} {l2 : List T_api_Row} {o : ((Int × T_pagemenddraw_Codes × (List T_api_Row)) ⊕ (T_api_Index × T_pagemenddraw_Codes))} (h : J5L x5 b0 b1 l2 = some o) :
    rk (J1 p) J2f 1 [.lo 4 [0, 2, 3, 5] J1Y, .bl 0, .sq (.keep [2, 3] J3B)] (X (J1 p) Jb3 ⟨[(0, .ptr 0 0), (2, .ptr 1 0), (3, .ptr 3 0), (5, .p (.i .i64 x5))], [.box (List.map AV.p (J0 b0)), .box (List.map AV.p (Jj b1)), .arr true 3 (List.map Je l2), .box [.slr 2 0 (List.length l2)]]⟩) = (Jds p b1) o := by
  unfold J5L at h
  obtain rfl := sj h
  try simp only [↓Da, Ua, Jb3, ↓reduceIte, Nat.reduceEqDiff, Nat.reduceAdd, Nat.reduceLT, Nat.reduceMul]
  rfl
def J9l (b0 : T_pagemenddraw_Codes) (b1 : T_api_Index) (l2 : List T_api_Row) : Option (T_api_Index × T_pagemenddraw_Codes) :=
  some ((⟨l2⟩ : T_api_Index), b0)
theorem JkQ {b0 : T_pagemenddraw_Codes} {b1 : T_api_Index} {l2 : List T_api_Row} {w2 : Bool} {o : T_api_Index × T_pagemenddraw_Codes} (h : J9l b0 b1 l2 = some o) :
    rk (J1 p) J2f 1 [] (X (J1 p) J3B ⟨[(2, .ptr 1 0), (3, .ptr 3 0)], [.box (List.map AV.p (J0 b0)), .box (List.map AV.p (Jj b1)), .arr w2 3 (List.map Je l2), .box [.slr 2 0 (List.length l2)]]⟩) = J7t o := by
  unfold J9l at h
  obtain rfl := sj h
  try simp only [↓Da, Ua, J3B, J5, JF, JmE, ↓reduceIte, Nat.reduceEqDiff, Nat.reduceAdd, Nat.reduceLT, Nat.reduceMul]
  rfl
def J3F (b1 : T_api_Index) (x5 : Int) (b0 : T_pagemenddraw_Codes) (l2 : List T_api_Row) : Option (((Int × T_pagemenddraw_Codes × (List T_api_Row)) ⊕ (T_api_Index × T_pagemenddraw_Codes))) :=
  if (decide (x5 < (((List.length l2) : Nat) : Int))) then
    Option.bind (Jv b0 40) fun r2 =>
    Option.bind (idx l2 x5) fun y6 =>
    Option.bind (some (List.set l2 (Int.toNat x5) (⟨r2.1, y6.Image, y6.ImageLSN⟩ : T_api_Row))) fun m10 =>
    Option.bind (Jv r2.2 3) fun r14 =>
    if ((r14.1 : Int) == 0) then
      Option.bind (Jv r14.2 4) fun r18 =>
      Option.bind (Jv r18.2 40) fun r22 =>
      Option.bind (idx m10 x5) fun y26 =>
      Option.bind (some (List.set m10 (Int.toNat x5) (⟨y26.LSN, (IntKind.wrap .i64 (1 + r18.1)), y26.ImageLSN⟩ : T_api_Row))) fun m30 =>
      Option.bind (idx m30 x5) fun y34 =>
      Option.bind (some (List.set m30 (Int.toNat x5) (⟨y34.LSN, y34.Image, r22.1⟩ : T_api_Row))) fun m38 =>
      J5L x5 r22.2 b1 m38
    else
      J5L x5 r14.2 b1 m10
  else
    Option.map (fun o => .inr o) (J9l b0 b1 l2)
theorem Jdr {b1 : T_api_Index} {x5 : Int} {b0 : T_pagemenddraw_Codes} {l2 : List T_api_Row} {o : ((Int × T_pagemenddraw_Codes × (List T_api_Row)) ⊕ (T_api_Index × T_pagemenddraw_Codes))} (h : J3F b1 x5 b0 l2 = some o) :
    rk (J1 p) J2f 1 [.lo 4 [0, 2, 3, 5] J1Y, .bl 0, .sq (.keep [2, 3] J3B)] (X (J1 p) J1Y ⟨[(0, .ptr 0 0), (2, .ptr 1 0), (3, .ptr 3 0), (5, .p (.i .i64 x5))], [.box (List.map AV.p (J0 b0)), .box (List.map AV.p (Jj b1)), .arr true 3 (List.map Je l2), .box [.slr 2 0 (List.length l2)]]⟩) = (Jds p b1) o := by
  unfold J3F at h
  rcases J9 h with ⟨h1, h⟩ | ⟨h1, h⟩
  · obtain ⟨r2, h3, h⟩ := bi h
    have f4 : ∀ ws new s, JP ws s [0] [List.map AV.p (J0 b0)] → (Jq (AF (J1 p)) Jc ([.ptr 0 0, .p (.i .i64 40)], ws) 0 new).run s = some ⟨.p (.i .i64 r2.1), ws ++ [(0, .box (List.map AV.p (J0 r2.2)))]⟩ := JG (args' := [.ptr 0 0, .p (.i .i64 40)]) (bs := [0]) (css := [List.map AV.p (J0 b0)]) (css' := [List.map AV.p (J0 r2.2)]) rfl rfl rfl (by simp [Jo, Jb]) (JC p h3) rfl rfl (by simp [Jo, Jb])
    try simp only [Nf, J5, Jn, JF] at f4
    have f5 : ∀ ws k new s, JP ws s [0] [List.map AV.p (J0 b0)] → Jm ((Jq (AF (J1 p)) Jc ([.ptr 0 0, .p (.i .i64 40)], ws) k new).reads s) = [0] ++ ([0] ++ [0]) := J2d (args' := [.ptr 0 0, .p (.i .i64 40)]) (bs := [0]) (css := [List.map AV.p (J0 b0)]) rfl rfl rfl (by simp [Jo, Jb])
    try simp only [Nf, J5, Jn, JF] at f5
    obtain ⟨y6, h7, h⟩ := bi h
    have f8 := JbF (r := Je) h7
    try simp only [Nf, J5, Jn, JF] at f8
    have f9 : (0 ≤ (x5 : Int) ∧ (x5 : Int) < (((List.length l2) : Nat) : Int)) = True := eq_true (by have e0 := Jee h7; (try simp only [List.length_cons, List.length_nil, Nat.zero_add] at e0); omega)
    obtain ⟨m10, h11, h⟩ := bi h
    have f12 : List.set (List.map Je l2) (Int.toNat x5) (Je (⟨r2.1, y6.Image, y6.ImageLSN⟩ : T_api_Row)) = List.map Je m10 := by
      rw [← Option.some.inj h11, List.map_set]
    try simp only [Nf, J5, Jn, JF] at f12
    have g13 : List.length m10 = List.length l2 := by rw [← Option.some.inj h11, List.length_set]
    obtain ⟨r14, h15, h⟩ := bi h
    have f16 : ∀ ws new s, JP ws s [0] [List.map AV.p (J0 r2.2)] → (Jq (AF (J1 p)) Jc ([.ptr 0 0, .p (.i .i64 3)], ws) 0 new).run s = some ⟨.p (.i .i64 r14.1), ws ++ [(0, .box (List.map AV.p (J0 r14.2)))]⟩ := JG (args' := [.ptr 0 0, .p (.i .i64 3)]) (bs := [0]) (css := [List.map AV.p (J0 r2.2)]) (css' := [List.map AV.p (J0 r14.2)]) rfl rfl rfl (by simp [Jo, Jb]) (JC p h15) rfl rfl (by simp [Jo, Jb])
    try simp only [Nf, J5, Jn, JF] at f16
    try simp only [↓Da, Ua, Ra, J1Y, J5, Jn, JF, *, ↓reduceIte, Nat.reduceEqDiff, Nat.reduceAdd, Nat.reduceLT, Nat.reduceMul, Nat.reduceBEq]
    rcases J9 h with ⟨h17, h⟩ | ⟨h17, h⟩
    · have h17n : ((r14.1 : Int) != 0) = false := by rw [bne, h17]; rfl
      obtain ⟨r18, h19, h⟩ := bi h
      have f20 : ∀ ws new s, JP ws s [0] [List.map AV.p (J0 r14.2)] → (Jq (AF (J1 p)) Jc ([.ptr 0 0, .p (.i .i64 4)], ws) 0 new).run s = some ⟨.p (.i .i64 r18.1), ws ++ [(0, .box (List.map AV.p (J0 r18.2)))]⟩ := JG (args' := [.ptr 0 0, .p (.i .i64 4)]) (bs := [0]) (css := [List.map AV.p (J0 r14.2)]) (css' := [List.map AV.p (J0 r18.2)]) rfl rfl rfl (by simp [Jo, Jb]) (JC p h19) rfl rfl (by simp [Jo, Jb])
      try simp only [Nf, J5, Jn, JF] at f20
      have f21 : ∀ ws k new s, JP ws s [0] [List.map AV.p (J0 r14.2)] → Jm ((Jq (AF (J1 p)) Jc ([.ptr 0 0, .p (.i .i64 4)], ws) k new).reads s) = [0] ++ ([0] ++ [0]) := J2d (args' := [.ptr 0 0, .p (.i .i64 4)]) (bs := [0]) (css := [List.map AV.p (J0 r14.2)]) rfl rfl rfl (by simp [Jo, Jb])
      try simp only [Nf, J5, Jn, JF] at f21
      obtain ⟨r22, h23, h⟩ := bi h
      have f24 : ∀ ws new s, JP ws s [0] [List.map AV.p (J0 r18.2)] → (Jq (AF (J1 p)) Jc ([.ptr 0 0, .p (.i .i64 40)], ws) 0 new).run s = some ⟨.p (.i .i64 r22.1), ws ++ [(0, .box (List.map AV.p (J0 r22.2)))]⟩ := JG (args' := [.ptr 0 0, .p (.i .i64 40)]) (bs := [0]) (css := [List.map AV.p (J0 r18.2)]) (css' := [List.map AV.p (J0 r22.2)]) rfl rfl rfl (by simp [Jo, Jb]) (JC p h23) rfl rfl (by simp [Jo, Jb])
      try simp only [Nf, J5, Jn, JF] at f24
      have f25 : ∀ ws k new s, JP ws s [0] [List.map AV.p (J0 r18.2)] → Jm ((Jq (AF (J1 p)) Jc ([.ptr 0 0, .p (.i .i64 40)], ws) k new).reads s) = [0] ++ ([0] ++ [0]) := J2d (args' := [.ptr 0 0, .p (.i .i64 40)]) (bs := [0]) (css := [List.map AV.p (J0 r18.2)]) rfl rfl rfl (by simp [Jo, Jb])
      try simp only [Nf, J5, Jn, JF] at f25
      obtain ⟨y26, h27, h⟩ := bi h
      have f28 := JbF (r := Je) h27
      try simp only [Nf, J5, Jn, JF] at f28
      have f29 : (0 ≤ (x5 : Int) ∧ (x5 : Int) < (((List.length l2) : Nat) : Int)) = True := eq_true (by have e0 := Jee h27; (try simp only [g13, List.length_cons, List.length_nil, Nat.zero_add] at e0); omega)
      obtain ⟨m30, h31, h⟩ := bi h
      have f32 : List.set (List.map Je m10) (Int.toNat x5) (Je (⟨y26.LSN, (IntKind.wrap .i64 (1 + r18.1)), y26.ImageLSN⟩ : T_api_Row)) = List.map Je m30 := by
        rw [← Option.some.inj h31, List.map_set]
      try simp only [Nf, J5, Jn, JF] at f32
      have g33 : List.length m30 = List.length m10 := by rw [← Option.some.inj h31, List.length_set]
      obtain ⟨y34, h35, h⟩ := bi h
      have f36 := JbF (r := Je) h35
      try simp only [Nf, J5, Jn, JF] at f36
      have f37 : (0 ≤ (x5 : Int) ∧ (x5 : Int) < (((List.length l2) : Nat) : Int)) = True := eq_true (by have e0 := Jee h35; (try simp only [g13, g33, List.length_cons, List.length_nil, Nat.zero_add] at e0); omega)
      obtain ⟨m38, h39, h⟩ := bi h
      have f40 : List.set (List.map Je m30) (Int.toNat x5) (Je (⟨y34.LSN, y34.Image, r22.1⟩ : T_api_Row)) = List.map Je m38 := by
        rw [← Option.some.inj h39, List.map_set]
      try simp only [Nf, J5, Jn, JF] at f40
      have g41 : List.length m38 = List.length m30 := by rw [← Option.some.inj h39, List.length_set]
      try simp only [↓Da, Ua, Ra, J1Y, J5, Jn, JF, *, ↓reduceIte, Nat.reduceEqDiff, Nat.reduceAdd, Nat.reduceLT, Nat.reduceMul, Nat.reduceBEq]
      have e0 := Jdv p h
      try simp only [g13, g33, g41] at e0
      exact e0
    · have h17n : ((r14.1 : Int) != 0) = true := by rw [bne, h17]; rfl
      try simp only [↓Da, Ua, Ra, J1Y, J5, Jn, JF, *, ↓reduceIte, Nat.reduceEqDiff, Nat.reduceAdd, Nat.reduceLT, Nat.reduceMul, Nat.reduceBEq]
      have e0 := Jdv p h
      try simp only [g13] at e0
      exact e0
  · obtain ⟨o', h', rfl⟩ := mi h
    try simp only [↓Da, Ua, Ra, J1Y, J5, Jn, JF, *, ↓reduceIte, Nat.reduceEqDiff, Nat.reduceAdd, Nat.reduceLT, Nat.reduceMul, Nat.reduceBEq]
    have e0 := JkQ p (w2 := true) h'
    exact e0
def JdM (b1 : T_api_Index) (s : Int × T_pagemenddraw_Codes × (List T_api_Row)) : Option (T_api_Index × T_pagemenddraw_Codes) :=
  JK (fun s => J3F b1 s.1 s.2.1 s.2.2) s
theorem JhB {b1 : T_api_Index} {s : Int × T_pagemenddraw_Codes × (List T_api_Row)} {o : T_api_Index × T_pagemenddraw_Codes} (h : JdM b1 s = some o) :
    rk (J1 p) J2f 1 [.bl 0, .sq (.keep [2, 3] J3B)] (X (J1 p) (.lp 4 [0, 2, 3, 5] J1Y) ⟨[(0, .ptr 0 0), (2, .ptr 1 0), (3, .ptr 3 0), (5, .p (.i .i64 s.1))], [.box (List.map AV.p (J0 s.2.1)), .box (List.map AV.p (Jj b1)), .arr true 3 (List.map Je s.2.2), .box [.slr 2 0 (List.length s.2.2)]]⟩) = J7t o := by
  have h0 : JK (fun s => J3F b1 s.1 s.2.1 s.2.2) s = some o := h
  exact J10 (P := fun (s : Int × T_pagemenddraw_Codes × (List T_api_Row)) (o : T_api_Index × T_pagemenddraw_Codes) => rk (J1 p) J2f 1 [.bl 0, .sq (.keep [2, 3] J3B)] (X (J1 p) (.lp 4 [0, 2, 3, 5] J1Y) ⟨[(0, .ptr 0 0), (2, .ptr 1 0), (3, .ptr 3 0), (5, .p (.i .i64 s.1))], [.box (List.map AV.p (J0 s.2.1)), .box (List.map AV.p (Jj b1)), .arr true 3 (List.map Je s.2.2), .box [.slr 2 0 (List.length s.2.2)]]⟩) = J7t o) (fun s r hs => by rw [J0Z]; exact Jdr p hs) (fun s s1 r hs ih => by rw [J0Z]; exact (Jdr p hs).trans ih) h0
def J51 (b0 : T_pagemenddraw_Codes) : Option (T_api_Index × T_pagemenddraw_Codes) :=
  Option.bind (Jv b0 5) fun r1 =>
  Option.bind (J7P (IntKind.wrap .i64 (1 + r1.1))) fun r4 =>
  if ((r4.2 : Int) == 0) then
    JdM (⟨([] : List T_api_Row)⟩ : T_api_Index) (0, r1.2, r4.1.Rows)
  else
    none
theorem Jic {b0 : T_pagemenddraw_Codes} {o : T_api_Index × T_pagemenddraw_Codes} (h : J51 b0 = some o) :
    rk (J1 p) J2f 1 [] (X (J1 p) J7h ⟨[(0, .ptr 0 0)], [.box (List.map AV.p (J0 b0))]⟩) = J7t o := by
  unfold J51 at h
  obtain ⟨r1, h2, h⟩ := bi h
  have f3 : ∀ ws new s, JP ws s [0] [List.map AV.p (J0 b0)] → (Jq (AF (J1 p)) Jc ([.ptr 0 0, .p (.i .i64 5)], ws) 0 new).run s = some ⟨.p (.i .i64 r1.1), ws ++ [(0, .box (List.map AV.p (J0 r1.2)))]⟩ := JG (args' := [.ptr 0 0, .p (.i .i64 5)]) (bs := [0]) (css := [List.map AV.p (J0 b0)]) (css' := [List.map AV.p (J0 r1.2)]) rfl rfl rfl (by simp [Jo, Jb]) (JC p h2) rfl rfl (by simp [Jo, Jb])
  try simp only [Nf, J5, Jn, JF] at f3
  obtain ⟨r4, h5, h⟩ := bi h
  try simp only [↓Da, Ua, J7h, J5, Jn, JF, *, ↓reduceIte, Nat.reduceEqDiff, Nat.reduceAdd, Nat.reduceLT, Nat.reduceMul]
  rcases J9 h with ⟨h6, h⟩ | ⟨h6, h⟩
  · have h6n : ((r4.2 : Int) != 0) = false := by rw [bne, h6]; rfl
    have f7 := Jmp p h5 h6
    try simp only [Nf, J5, Jn, JF] at f7
    try simp only [↓Da, Ua, J7h, J5, Jn, JF, *, ↓reduceIte, Nat.reduceEqDiff, Nat.reduceAdd, Nat.reduceLT, Nat.reduceMul]
    have e0 := JhB p h
    exact e0
  · have h6n : ((r4.2 : Int) != 0) = true := by rw [bne, h6]; rfl
    cases h
theorem Jn4 {b0 : T_pagemenddraw_Codes} {o : T_api_Index × T_pagemenddraw_Codes} (h : J51 b0 = some o) : AF (J1 p) J71 [.ptr 0 0] [.box (List.map AV.p (J0 b0))] = J7t o :=
  (J0j (J1 p) (JmV p) rfl).trans (Jic p h)
def J3t  (r : T_api_Page × T_pagemenddraw_Codes) : Option Res := some (.data (J4 r.1), [.box (List.map AV.p (J0 r.2))])
def Jg7 (b1 : T_api_Page) (o : (Int × T_pagemenddraw_Codes × T_api_Page) ⊕ (T_api_Page × T_pagemenddraw_Codes)) : Option Res := match o with
  | .inl s => rk (J1 p) J16 1 [.bl 0, .sq (.keep [4, 5] J2W)] (X (J1 p) (.lp 3 [0, 4, 5, 6] J2a) ⟨[(0, .ptr 0 0), (4, .ptr 1 0), (5, .ptr 2 0), (6, .p (.i .i64 s.1))], [.box (List.map AV.p (J0 s.2.1)), .box (List.map AV.p (J4 b1)), .box (List.map AV.p (J4 s.2.2))]⟩)
  | .inr o => J3t o
def J3L (b0 : T_pagemenddraw_Codes) (b1 : T_api_Page) (b2 : T_api_Page) : Option (T_api_Page × T_pagemenddraw_Codes) :=
  some (b2, b0)
theorem Jbr {b0 : T_pagemenddraw_Codes} {b1 : T_api_Page} {b2 : T_api_Page} {o : T_api_Page × T_pagemenddraw_Codes} (h : J3L b0 b1 b2 = some o) :
    rk (J1 p) J16 1 [] (X (J1 p) J2W ⟨[(4, .ptr 1 0), (5, .ptr 2 0)], [.box (List.map AV.p (J0 b0)), .box (List.map AV.p (J4 b1)), .box (List.map AV.p (J4 b2))]⟩) = J3t o := by
  unfold J3L at h
  obtain rfl := sj h
  try simp only [↓Da, Ua, J2W, J3, J2, J6, Jie, ↓reduceIte, Nat.reduceEqDiff, Nat.reduceAdd, Nat.reduceLT, Nat.reduceMul]
  rfl
def J2V (b1 : T_api_Page) (x6 : Int) (b0 : T_pagemenddraw_Codes) (b2 : T_api_Page) : Option (((Int × T_pagemenddraw_Codes × T_api_Page) ⊕ (T_api_Page × T_pagemenddraw_Codes))) :=
  if (decide (x6 > 0)) then
    Option.bind (Jv b0 16) fun r2 =>
    Option.bind (J4K r2.2) fun r5 =>
    Option.bind (inb 16 r2.1) fun u8 =>
    Option.bind (J6Z b2.Cells r2.1) fun y11 =>
    some (.inl ((IntKind.wrap .i64 (x6 - 1)), r5.2, (⟨b2.ID, b2.LSN, (JaE b2.Cells r2.1 r5.1)⟩ : T_api_Page)))
  else
    Option.map (fun o => .inr o) (J3L b0 b1 b2)
theorem Jbo {b1 : T_api_Page} {x6 : Int} {b0 : T_pagemenddraw_Codes} {b2 : T_api_Page} {o : ((Int × T_pagemenddraw_Codes × T_api_Page) ⊕ (T_api_Page × T_pagemenddraw_Codes))} (h : J2V b1 x6 b0 b2 = some o) :
    rk (J1 p) J16 1 [.lo 3 [0, 4, 5, 6] J2a, .bl 0, .sq (.keep [4, 5] J2W)] (X (J1 p) J2a ⟨[(0, .ptr 0 0), (4, .ptr 1 0), (5, .ptr 2 0), (6, .p (.i .i64 x6))], [.box (List.map AV.p (J0 b0)), .box (List.map AV.p (J4 b1)), .box (List.map AV.p (J4 b2))]⟩) = (Jg7 p b1) o := by
  unfold J2V at h
  rcases J9 h with ⟨h1, h⟩ | ⟨h1, h⟩
  · obtain ⟨r2, h3, h⟩ := bi h
    have f4 : ∀ ws new s, JP ws s [0] [List.map AV.p (J0 b0)] → (Jq (AF (J1 p)) Jc ([.ptr 0 0, .p (.i .i64 16)], ws) 0 new).run s = some ⟨.p (.i .i64 r2.1), ws ++ [(0, .box (List.map AV.p (J0 r2.2)))]⟩ := JG (args' := [.ptr 0 0, .p (.i .i64 16)]) (bs := [0]) (css := [List.map AV.p (J0 b0)]) (css' := [List.map AV.p (J0 r2.2)]) rfl rfl rfl (by simp [Jo, Jb]) (JC p h3) rfl rfl (by simp [Jo, Jb])
    try simp only [Nf] at f4
    obtain ⟨r5, h6, h⟩ := bi h
    have f7 : ∀ ws new s, JP ws s [0] [List.map AV.p (J0 r2.2)] → (Jq (AF (J1 p)) J4M ([.ptr 0 0], ws) 0 new).run s = some ⟨.data (Jh r5.1), ws ++ [(0, .box (List.map AV.p (J0 r5.2)))]⟩ := JG (args' := [.ptr 0 0]) (bs := [0]) (css := [List.map AV.p (J0 r2.2)]) (css' := [List.map AV.p (J0 r5.2)]) rfl rfl rfl (by simp [Jo, Jb]) (Ji6 p h6) rfl rfl (by simp [Jo, Jb])
    try simp only [Nf] at f7
    obtain ⟨u8, h9, h⟩ := bi h
    have f10 : (0 ≤ (r2.1 : Int) ∧ (r2.1 : Int) < ((16 : Nat) : Int)) = True := eq_true (J8h h9)
    obtain ⟨y11, h12, h⟩ := bi h
    have f13 : spl (J4 b2) (2 + Int.toNat r2.1 * 2) (Jh r5.1) = some (J4 (⟨b2.ID, b2.LSN, (JaE b2.Cells r2.1 r5.1)⟩ : T_api_Page)) := by
      have e0 := (Jlf (J1v b2) (JjR (v := b2.Cells) JI (Jhp h12) r5.1) (J7F b2 _))
      exact e0
    try simp only [Nf] at f13
    obtain rfl := sj h
    try simp only [↓Da, Ua, J2a, J3, Jl, *, ↓reduceIte, Nat.reduceEqDiff, Nat.reduceAdd, Nat.reduceLT, Nat.reduceMul]
    rfl
  · obtain ⟨o', h', rfl⟩ := mi h
    try simp only [↓Da, Ua, J2a, J3, Jl, *, ↓reduceIte, Nat.reduceEqDiff, Nat.reduceAdd, Nat.reduceLT, Nat.reduceMul]
    have e0 := Jbr p h'
    exact e0
def Jbp (b1 : T_api_Page) (s : Int × T_pagemenddraw_Codes × T_api_Page) : Option (T_api_Page × T_pagemenddraw_Codes) :=
  JK (fun s => J2V b1 s.1 s.2.1 s.2.2) s
theorem Jeb {b1 : T_api_Page} {s : Int × T_pagemenddraw_Codes × T_api_Page} {o : T_api_Page × T_pagemenddraw_Codes} (h : Jbp b1 s = some o) :
    rk (J1 p) J16 1 [.bl 0, .sq (.keep [4, 5] J2W)] (X (J1 p) (.lp 3 [0, 4, 5, 6] J2a) ⟨[(0, .ptr 0 0), (4, .ptr 1 0), (5, .ptr 2 0), (6, .p (.i .i64 s.1))], [.box (List.map AV.p (J0 s.2.1)), .box (List.map AV.p (J4 b1)), .box (List.map AV.p (J4 s.2.2))]⟩) = J3t o := by
  have h0 : JK (fun s => J2V b1 s.1 s.2.1 s.2.2) s = some o := h
  exact J10 (P := fun (s : Int × T_pagemenddraw_Codes × T_api_Page) (o : T_api_Page × T_pagemenddraw_Codes) => rk (J1 p) J16 1 [.bl 0, .sq (.keep [4, 5] J2W)] (X (J1 p) (.lp 3 [0, 4, 5, 6] J2a) ⟨[(0, .ptr 0 0), (4, .ptr 1 0), (5, .ptr 2 0), (6, .p (.i .i64 s.1))], [.box (List.map AV.p (J0 s.2.1)), .box (List.map AV.p (J4 b1)), .box (List.map AV.p (J4 s.2.2))]⟩) = J3t o) (fun s r hs => by rw [J0Z]; exact Jbo p hs) (fun s s1 r hs ih => by rw [J0Z]; exact (Jbo p hs).trans ih) h0
def J3K (b0 : T_pagemenddraw_Codes) (b1 : T_api_Page) (b2 : T_api_Page) : Option (T_api_Page × T_pagemenddraw_Codes) :=
  if (decide (b2.LSN > 0)) then
    Option.bind (Jv b0 6) fun r2 =>
    Jbp b1 (r2.1, r2.2, b2)
  else
    J3L b0 b1 b2
theorem Jbu {b0 : T_pagemenddraw_Codes} {b1 : T_api_Page} {b2 : T_api_Page} {o : T_api_Page × T_pagemenddraw_Codes} (h : J3K b0 b1 b2 = some o) :
    rk (J1 p) J16 1 [] (X (J1 p) J6X ⟨[(0, .ptr 0 0), (4, .ptr 1 0), (5, .ptr 2 0)], [.box (List.map AV.p (J0 b0)), .box (List.map AV.p (J4 b1)), .box (List.map AV.p (J4 b2))]⟩) = J3t o := by
  unfold J3K at h
  rcases J9 h with ⟨h1, h⟩ | ⟨h1, h⟩
  · obtain ⟨r2, h3, h⟩ := bi h
    have f4 : ∀ ws new s, JP ws s [0] [List.map AV.p (J0 b0)] → (Jq (AF (J1 p)) Jc ([.ptr 0 0, .p (.i .i64 6)], ws) 0 new).run s = some ⟨.p (.i .i64 r2.1), ws ++ [(0, .box (List.map AV.p (J0 r2.2)))]⟩ := JG (args' := [.ptr 0 0, .p (.i .i64 6)]) (bs := [0]) (css := [List.map AV.p (J0 b0)]) (css' := [List.map AV.p (J0 r2.2)]) rfl rfl rfl (by simp [Jo, Jb]) (JC p h3) rfl rfl (by simp [Jo, Jb])
    try simp only [Nf] at f4
    try simp only [↓Da, Ua, J6X, J3, J2, J6, Jl, *, ↓reduceIte, Nat.reduceEqDiff, Nat.reduceAdd, Nat.reduceLT, Nat.reduceMul]
    have e0 := Jeb p h
    exact e0
  · try simp only [↓Da, Ua, J6X, J3, J2, J6, Jl, *, ↓reduceIte, Nat.reduceEqDiff, Nat.reduceAdd, Nat.reduceLT, Nat.reduceMul]
    have e0 := Jbr p h
    exact e0
def J2Q (b0 : T_pagemenddraw_Codes) (x1 : Int) : Option (T_api_Page × T_pagemenddraw_Codes) :=
  Option.bind (Jv b0 50) fun r1 =>
  Option.bind (Jv r1.2 10) fun r4 =>
  if ((r4.1 : Int) == 9) then
    Option.bind (Jv r4.2 2) fun r8 =>
    J3K r8.2 (⟨0, 0, (Vector.replicate 16 (⟨false, []⟩ : J8))⟩ : T_api_Page) (⟨x1, (IntKind.wrap .i64 (1099511627776 - r8.1)), (Vector.replicate 16 (⟨false, []⟩ : J8))⟩ : T_api_Page)
  else
    J3K r4.2 (⟨0, 0, (Vector.replicate 16 (⟨false, []⟩ : J8))⟩ : T_api_Page) (⟨x1, r1.1, (Vector.replicate 16 (⟨false, []⟩ : J8))⟩ : T_api_Page)
theorem Jej {b0 : T_pagemenddraw_Codes} {x1 : Int} {o : T_api_Page × T_pagemenddraw_Codes} (h : J2Q b0 x1 = some o) :
    rk (J1 p) J16 1 [] (X (J1 p) J3u ⟨[(0, .ptr 0 0), (1, .p (.i .i64 x1))], [.box (List.map AV.p (J0 b0))]⟩) = J3t o := by
  unfold J2Q at h
  obtain ⟨r1, h2, h⟩ := bi h
  have f3 : ∀ ws new s, JP ws s [0] [List.map AV.p (J0 b0)] → (Jq (AF (J1 p)) Jc ([.ptr 0 0, .p (.i .i64 50)], ws) 0 new).run s = some ⟨.p (.i .i64 r1.1), ws ++ [(0, .box (List.map AV.p (J0 r1.2)))]⟩ := JG (args' := [.ptr 0 0, .p (.i .i64 50)]) (bs := [0]) (css := [List.map AV.p (J0 b0)]) (css' := [List.map AV.p (J0 r1.2)]) rfl rfl rfl (by simp [Jo, Jb]) (JC p h2) rfl rfl (by simp [Jo, Jb])
  try simp only [Nf] at f3
  obtain ⟨r4, h5, h⟩ := bi h
  have f6 : ∀ ws new s, JP ws s [0] [List.map AV.p (J0 r1.2)] → (Jq (AF (J1 p)) Jc ([.ptr 0 0, .p (.i .i64 10)], ws) 0 new).run s = some ⟨.p (.i .i64 r4.1), ws ++ [(0, .box (List.map AV.p (J0 r4.2)))]⟩ := JG (args' := [.ptr 0 0, .p (.i .i64 10)]) (bs := [0]) (css := [List.map AV.p (J0 r1.2)]) (css' := [List.map AV.p (J0 r4.2)]) rfl rfl rfl (by simp [Jo, Jb]) (JC p h5) rfl rfl (by simp [Jo, Jb])
  try simp only [Nf] at f6
  try simp only [↓Da, Ua, J3u, J3, J2, J6, Jl, *, ↓reduceIte, Nat.reduceEqDiff, Nat.reduceAdd, Nat.reduceLT, Nat.reduceMul]
  rcases J9 h with ⟨h7, h⟩ | ⟨h7, h⟩
  · have h7n : ((r4.1 : Int) != 9) = false := by rw [bne, h7]; rfl
    obtain ⟨r8, h9, h⟩ := bi h
    have f10 : ∀ ws new s, JP ws s [0] [List.map AV.p (J0 r4.2)] → (Jq (AF (J1 p)) Jc ([.ptr 0 0, .p (.i .i64 2)], ws) 0 new).run s = some ⟨.p (.i .i64 r8.1), ws ++ [(0, .box (List.map AV.p (J0 r8.2)))]⟩ := JG (args' := [.ptr 0 0, .p (.i .i64 2)]) (bs := [0]) (css := [List.map AV.p (J0 r4.2)]) (css' := [List.map AV.p (J0 r8.2)]) rfl rfl rfl (by simp [Jo, Jb]) (JC p h9) rfl rfl (by simp [Jo, Jb])
    try simp only [Nf] at f10
    try simp only [↓Da, Ua, J3u, J3, J2, J6, Jl, *, ↓reduceIte, Nat.reduceEqDiff, Nat.reduceAdd, Nat.reduceLT, Nat.reduceMul]
    have e0 := Jbu p h
    exact e0
  · have h7n : ((r4.1 : Int) != 9) = true := by rw [bne, h7]; rfl
    try simp only [↓Da, Ua, J3u, J3, J2, J6, Jl, *, ↓reduceIte, Nat.reduceEqDiff, Nat.reduceAdd, Nat.reduceLT, Nat.reduceMul]
    have e0 := Jbu p h
    exact e0
theorem Ji1 {b0 : T_pagemenddraw_Codes} {x1 : Int} {o : T_api_Page × T_pagemenddraw_Codes} (h : J2Q b0 x1 = some o) : AF (J1 p) J4J [.ptr 0 0, .p (.i .i64 x1)] [.box (List.map AV.p (J0 b0))] = J3t o :=
  (J0j (J1 p) (Ji0 p) rfl).trans (Jej p h)
def Jin  (r : T_api_Index × T_pagemenddraw_Codes) : Option Res := some (.data (Jj r.1), [.box (List.map AV.p (J0 r.2))])
def J7V (b0 : T_pagemenddraw_Codes) (x1 : T_api_Index) : Option (T_api_Index × T_pagemenddraw_Codes) :=
  Option.bind (Jov 24 x1.Rows) fun u2 =>
  Option.bind (Jv b0 (((List.length x1.Rows) : Nat) : Int)) fun r4 =>
  Option.bind (idx x1.Rows r4.1) fun y8 =>
  Option.bind (Jv r4.2 4) fun r12 =>
  if ((r12.1 : Int) == 0) then
    Option.bind (J2x r12.2) fun r16 =>
    Option.bind (some (List.set x1.Rows (Int.toNat r4.1) (⟨r16.1, y8.Image, y8.ImageLSN⟩ : T_api_Row))) fun m19 =>
    some ((⟨m19⟩ : T_api_Index), r16.2)
  else
    if ((r12.1 : Int) == 1) then
      Option.bind (J2x r12.2) fun r24 =>
      Option.bind (some (List.set x1.Rows (Int.toNat r4.1) (⟨y8.LSN, r24.1, y8.ImageLSN⟩ : T_api_Row))) fun m27 =>
      some ((⟨m27⟩ : T_api_Index), r24.2)
    else
      if ((r12.1 : Int) == 2) then
        Option.bind (J2x r12.2) fun r32 =>
        Option.bind (some (List.set x1.Rows (Int.toNat r4.1) (⟨y8.LSN, y8.Image, r32.1⟩ : T_api_Row))) fun m35 =>
        some ((⟨m35⟩ : T_api_Index), r32.2)
      else
        if ((r12.1 : Int) == 3) then
          Option.bind (Jv r12.2 6) fun r40 =>
          Option.bind (mkS 24 (IntKind.wrap .i64 (60 + r40.1)) (IntKind.wrap .i64 (60 + r40.1)) (⟨0, 0, 0⟩ : T_api_Row)) fun m44 =>
          Option.bind (Jlo 24 x1.Rows m44) fun m47 =>
          some ((⟨m47⟩ : T_api_Index), r40.2)
        else
          some ((⟨x1.Rows⟩ : T_api_Index), r12.2)
theorem Jkq {b0 : T_pagemenddraw_Codes} {x1 : T_api_Index} {o : T_api_Index × T_pagemenddraw_Codes} (h : J7V b0 x1 = some o) :
    rk (J1 p) J93 1 [] (X (J1 p) J2L ⟨[(0, .ptr 0 0), (1, .data (Jj x1))], [.box (List.map AV.p (J0 b0))]⟩) = Jin o := by
  unfold J7V at h
  obtain ⟨u2, h3, h⟩ := bi h
  have f1 := (Jta h3).1
  try simp only [Nf, J5, Jn, JF] at f1
  obtain ⟨r4, h5, h⟩ := bi h
  have f6 : ∀ ws new s, JP ws s [0] [List.map AV.p (J0 b0)] → (Jq (AF (J1 p)) Jc ([.ptr 0 0, .p (.i .i64 (((List.length x1.Rows) : Nat) : Int))], ws) 0 new).run s = some ⟨.p (.i .i64 r4.1), ws ++ [(0, .box (List.map AV.p (J0 r4.2)))]⟩ := JG (args' := [.ptr 0 0, .p (.i .i64 (((List.length x1.Rows) : Nat) : Int))]) (bs := [0]) (css := [List.map AV.p (J0 b0)]) (css' := [List.map AV.p (J0 r4.2)]) rfl rfl rfl (by simp [Jo, Jb]) (JC p h5) rfl rfl (by simp [Jo, Jb])
  try simp only [Nf, J5, Jn, JF] at f6
  have f7 : ∀ ws k new s, JP ws s [0] [List.map AV.p (J0 b0)] → Jm ((Jq (AF (J1 p)) Jc ([.ptr 0 0, .p (.i .i64 (((List.length x1.Rows) : Nat) : Int))], ws) k new).reads s) = [0] ++ ([0] ++ [0]) := J2d (args' := [.ptr 0 0, .p (.i .i64 (((List.length x1.Rows) : Nat) : Int))]) (bs := [0]) (css := [List.map AV.p (J0 b0)]) rfl rfl rfl (by simp [Jo, Jb])
  try simp only [Nf, J5, Jn, JF] at f7
  obtain ⟨y8, h9, h⟩ := bi h
  have f10 := JbF (r := Je) h9
  try simp only [Nf, J5, Jn, JF] at f10
  have f11 : (0 ≤ (r4.1 : Int) ∧ (r4.1 : Int) < (((List.length x1.Rows) : Nat) : Int)) = True := eq_true (by have e0 := Jee h9; (try simp only [List.length_cons, List.length_nil, Nat.zero_add] at e0); omega)
  obtain ⟨r12, h13, h⟩ := bi h
  have f14 : ∀ ws new s, JP ws s [0] [List.map AV.p (J0 r4.2)] → (Jq (AF (J1 p)) Jc ([.ptr 0 0, .p (.i .i64 4)], ws) 0 new).run s = some ⟨.p (.i .i64 r12.1), ws ++ [(0, .box (List.map AV.p (J0 r12.2)))]⟩ := JG (args' := [.ptr 0 0, .p (.i .i64 4)]) (bs := [0]) (css := [List.map AV.p (J0 r4.2)]) (css' := [List.map AV.p (J0 r12.2)]) rfl rfl rfl (by simp [Jo, Jb]) (JC p h13) rfl rfl (by simp [Jo, Jb])
  try simp only [Nf, J5, Jn, JF] at f14
  try simp only [↓Da, Ua, Ra, J2L, J5, Jn, JF, *, ↓reduceIte, Nat.reduceEqDiff, Nat.reduceAdd, Nat.reduceLT, Nat.reduceMul, Nat.reduceBEq]
  rcases J9 h with ⟨h15, h⟩ | ⟨h15, h⟩
  · have h15n : ((r12.1 : Int) != 0) = false := by rw [bne, h15]; rfl
    obtain ⟨r16, h17, h⟩ := bi h
    have f18 : ∀ ws new s, JP ws s [0] [List.map AV.p (J0 r12.2)] → (Jq (AF (J1 p)) J24 ([.ptr 0 0], ws) 0 new).run s = some ⟨.p (.i .i64 r16.1), ws ++ [(0, .box (List.map AV.p (J0 r16.2)))]⟩ := JG (args' := [.ptr 0 0]) (bs := [0]) (css := [List.map AV.p (J0 r12.2)]) (css' := [List.map AV.p (J0 r16.2)]) rfl rfl rfl (by simp [Jo, Jb]) (JaB p h17) rfl rfl (by simp [Jo, Jb])
    try simp only [Nf, J5, Jn, JF] at f18
    obtain ⟨m19, h20, h⟩ := bi h
    have f21 : List.set (List.map Je x1.Rows) (Int.toNat r4.1) (Je (⟨r16.1, y8.Image, y8.ImageLSN⟩ : T_api_Row)) = List.map Je m19 := by
      rw [← Option.some.inj h20, List.map_set]
    try simp only [Nf, J5, Jn, JF] at f21
    have g22 : List.length m19 = List.length x1.Rows := by rw [← Option.some.inj h20, List.length_set]
    obtain rfl := sj h
    try simp only [↓Da, Ua, Ra, J2L, J5, Jn, JF, Jam, *, ↓reduceIte, Nat.reduceEqDiff, Nat.reduceAdd, Nat.reduceLT, Nat.reduceMul, Nat.reduceBEq]
    rfl
  · have h15n : ((r12.1 : Int) != 0) = true := by rw [bne, h15]; rfl
    try simp only [↓Da, Ua, Ra, J2L, J5, Jn, JF, *, ↓reduceIte, Nat.reduceEqDiff, Nat.reduceAdd, Nat.reduceLT, Nat.reduceMul, Nat.reduceBEq]
    rcases J9 h with ⟨h23, h⟩ | ⟨h23, h⟩
    · have h23n : ((r12.1 : Int) != 1) = false := by rw [bne, h23]; rfl
      obtain ⟨r24, h25, h⟩ := bi h
      have f26 : ∀ ws new s, JP ws s [0] [List.map AV.p (J0 r12.2)] → (Jq (AF (J1 p)) J24 ([.ptr 0 0], ws) 0 new).run s = some ⟨.p (.i .i64 r24.1), ws ++ [(0, .box (List.map AV.p (J0 r24.2)))]⟩ := JG (args' := [.ptr 0 0]) (bs := [0]) (css := [List.map AV.p (J0 r12.2)]) (css' := [List.map AV.p (J0 r24.2)]) rfl rfl rfl (by simp [Jo, Jb]) (JaB p h25) rfl rfl (by simp [Jo, Jb])
      try simp only [Nf, J5, Jn, JF] at f26
      obtain ⟨m27, h28, h⟩ := bi h
      have f29 : List.set (List.map Je x1.Rows) (Int.toNat r4.1) (Je (⟨y8.LSN, r24.1, y8.ImageLSN⟩ : T_api_Row)) = List.map Je m27 := by
        rw [← Option.some.inj h28, List.map_set]
      try simp only [Nf, J5, Jn, JF] at f29
      have g30 : List.length m27 = List.length x1.Rows := by rw [← Option.some.inj h28, List.length_set]
      obtain rfl := sj h
      try simp only [↓Da, Ua, Ra, J2L, J5, Jn, JF, Jam, *, ↓reduceIte, Nat.reduceEqDiff, Nat.reduceAdd, Nat.reduceLT, Nat.reduceMul, Nat.reduceBEq]
      rfl
    · have h23n : ((r12.1 : Int) != 1) = true := by rw [bne, h23]; rfl
      try simp only [↓Da, Ua, Ra, J2L, J5, Jn, JF, *, ↓reduceIte, Nat.reduceEqDiff, Nat.reduceAdd, Nat.reduceLT, Nat.reduceMul, Nat.reduceBEq]
      rcases J9 h with ⟨h31, h⟩ | ⟨h31, h⟩
      · have h31n : ((r12.1 : Int) != 2) = false := by rw [bne, h31]; rfl
        obtain ⟨r32, h33, h⟩ := bi h
        have f34 : ∀ ws new s, JP ws s [0] [List.map AV.p (J0 r12.2)] → (Jq (AF (J1 p)) J24 ([.ptr 0 0], ws) 0 new).run s = some ⟨.p (.i .i64 r32.1), ws ++ [(0, .box (List.map AV.p (J0 r32.2)))]⟩ := JG (args' := [.ptr 0 0]) (bs := [0]) (css := [List.map AV.p (J0 r12.2)]) (css' := [List.map AV.p (J0 r32.2)]) rfl rfl rfl (by simp [Jo, Jb]) (JaB p h33) rfl rfl (by simp [Jo, Jb])
        try simp only [Nf, J5, Jn, JF] at f34
        obtain ⟨m35, h36, h⟩ := bi h
        have f37 : List.set (List.map Je x1.Rows) (Int.toNat r4.1) (Je (⟨y8.LSN, y8.Image, r32.1⟩ : T_api_Row)) = List.map Je m35 := by
          rw [← Option.some.inj h36, List.map_set]
        try simp only [Nf, J5, Jn, JF] at f37
        have g38 : List.length m35 = List.length x1.Rows := by rw [← Option.some.inj h36, List.length_set]
        obtain rfl := sj h
        try simp only [↓Da, Ua, Ra, J2L, J5, Jn, JF, Jam, *, ↓reduceIte, Nat.reduceEqDiff, Nat.reduceAdd, Nat.reduceLT, Nat.reduceMul, Nat.reduceBEq]
        rfl
      · have h31n : ((r12.1 : Int) != 2) = true := by rw [bne, h31]; rfl
        try simp only [↓Da, Ua, Ra, J2L, J5, Jn, JF, *, ↓reduceIte, Nat.reduceEqDiff, Nat.reduceAdd, Nat.reduceLT, Nat.reduceMul, Nat.reduceBEq]
        rcases J9 h with ⟨h39, h⟩ | ⟨h39, h⟩
        · have h39n : ((r12.1 : Int) != 3) = false := by rw [bne, h39]; rfl
          obtain ⟨r40, h41, h⟩ := bi h
          have f42 : ∀ ws new s, JP ws s [0] [List.map AV.p (J0 r12.2)] → (Jq (AF (J1 p)) Jc ([.ptr 0 0, .p (.i .i64 6)], ws) 0 new).run s = some ⟨.p (.i .i64 r40.1), ws ++ [(0, .box (List.map AV.p (J0 r40.2)))]⟩ := JG (args' := [.ptr 0 0, .p (.i .i64 6)]) (bs := [0]) (css := [List.map AV.p (J0 r12.2)]) (css' := [List.map AV.p (J0 r40.2)]) rfl rfl rfl (by simp [Jo, Jb]) (JC p h41) rfl rfl (by simp [Jo, Jb])
          try simp only [Nf, J5, Jn, JF] at f42
          have f43 : ∀ ws k new s, JP ws s [0] [List.map AV.p (J0 r12.2)] → Jm ((Jq (AF (J1 p)) Jc ([.ptr 0 0, .p (.i .i64 6)], ws) k new).reads s) = [0] ++ ([0] ++ [0]) := J2d (args' := [.ptr 0 0, .p (.i .i64 6)]) (bs := [0]) (css := [List.map AV.p (J0 r12.2)]) rfl rfl rfl (by simp [Jo, Jb])
          try simp only [Nf, J5, Jn, JF] at f43
          obtain ⟨m44, h45, h⟩ := bi h
          have f46 : zrs 3 (Je (⟨0, 0, 0⟩ : T_api_Row)) (.p (.i .i64 (IntKind.wrap .i64 (60 + r40.1)))) = some (.p (.sl 3 (List.map Je m44))) := JwF Je h45
          try simp only [Nf, J5, Jn, JF] at f46
          obtain ⟨m47, h48, h⟩ := bi h
          have f49 : ∀ s : St, s.sto[3]? = some (.arr true 3 (List.map Je x1.Rows)) → (J0y 3 (.p (.sl 3 (List.map Je m44)))).run s = some (List.map Je m44) → (J8s 3 24 (.slr 3 0 (List.length x1.Rows)) (.p (.sl 3 (List.map Je m44)))).run s = some ⟨.slr 3 0 (List.length m47), [(3, .arr true 3 (List.map Je m47))]⟩ := by
            intro s e1 e2; have e3 := JpO h48 e1 e2; try simp only [List.length_cons, List.length_nil, Nat.zero_add] at e3
            exact e3
          try simp only [Nf, J5, Jn, JF] at f49
          obtain rfl := sj h
          try simp only [↓Da, Ua, Ra, J2L, J5, Jn, JF, Jam, *, ↓reduceIte, Nat.reduceEqDiff, Nat.reduceAdd, Nat.reduceLT, Nat.reduceMul, Nat.reduceBEq]
          rfl
        · have h39n : ((r12.1 : Int) != 3) = true := by rw [bne, h39]; rfl
          obtain rfl := sj h
          try simp only [↓Da, Ua, Ra, J2L, J5, Jn, JF, Jam, *, ↓reduceIte, Nat.reduceEqDiff, Nat.reduceAdd, Nat.reduceLT, Nat.reduceMul, Nat.reduceBEq]
          rfl
theorem Jpg {b0 : T_pagemenddraw_Codes} {x1 : T_api_Index} {o : T_api_Index × T_pagemenddraw_Codes} (h : J7V b0 x1 = some o) : AF (J1 p) J7T [.ptr 0 0, .data (Jj x1)] [.box (List.map AV.p (J0 b0))] = Jin o :=
  (J0j (J1 p) (Jp8 p) rfl).trans (Jkq p h)
def JfQ  (r : (List UInt8)) : Option Res := some (.p (.s r), [])
def J4X  : Option ((List UInt8)) :=
  Option.bind (J2I 256) fun r1 =>
  some r1
theorem JhE  {o : (List UInt8)} (h : J4X = some o) :
    rk (J1 p) J73 0 [] (X (J1 p) J8N ⟨[], []⟩) = JfQ o := by
  unfold J4X at h
  obtain ⟨r1, h2, h⟩ := bi h
  have f3 := Jc5 p h2
  try simp only [Nf] at f3
  obtain rfl := sj h
  try simp only [↓Da, Ua, J8N, Jmr, *, ↓reduceIte, Nat.reduceEqDiff, Nat.reduceAdd, Nat.reduceLT, Nat.reduceMul]
  rfl
theorem Jn0  {o : (List UInt8)} (h : J4X = some o) : AF (J1 p) J69 [] [] = JfQ o :=
  (J0j (J1 p) (Jnc p) rfl).trans (JhE p h)
theorem JfG  {o : (List UInt8)} (h : J4X = some o) : ∀ ws new st, (Jq (AF (J1 p)) J69 ([], ws) 0 new).run st = some ⟨.p (.s o), ws⟩ := Jz rfl (Jn0 p h) rfl
def Jgr  (r : (List UInt8)) : Option Res := some (.p (.s r), [])
def J6S  : Option ((List UInt8)) :=
  Option.bind (J46 ([0]) 256) fun r1 =>
  some r1
theorem Jj6  {o : (List UInt8)} (h : J6S = some o) :
    rk (J1 p) J8f 0 [] (X (J1 p) J9G ⟨[], []⟩) = Jgr o := by
  unfold J6S at h
  obtain ⟨r1, h2, h⟩ := bi h
  have f3 := JaC p h2
  try simp only [Nf] at f3
  obtain rfl := sj h
  try simp only [↓Da, Ua, J9G, JnW, *, ↓reduceIte, Nat.reduceEqDiff, Nat.reduceAdd, Nat.reduceLT, Nat.reduceMul]
  rfl
theorem JoL  {o : (List UInt8)} (h : J6S = some o) : AF (J1 p) J8a [] [] = Jgr o :=
  (J0j (J1 p) (Joz p) rfl).trans (Jj6 p h)
theorem Jo5  {o : (List UInt8)} (h : J6S = some o) : ∀ ws new st, (Jq (AF (J1 p)) J8a ([], ws) 0 new).run st = some ⟨.p (.s o), ws⟩ := Jz rfl (JoL p h) rfl
def J7f  (r : Bool) : Option Res := some (.p (.b r), [])
def Jkx (b0 : T_api_Index) (o : (Int) ⊕ (Bool)) : Option Res := match o with
  | .inl s => rk (J1 p) J2E 0 [.bl 0, .td 1 [2], .sq (.keep [] J4C)] (X (J1 p) (.lp 1 [1, 3] J0v) ⟨[(1, .ptr 0 0), (3, .p (.i .i64 s))], [.box (List.map AV.p (Jj b0))]⟩)
  | .inr o => J7f o
def J9m  : Option (Bool) :=
  some true
theorem JjN {B0 : List PV} {o : Bool} (h : J9m = some o) :
    rk (J1 p) J2E 0 [] (X (J1 p) J4C ⟨[], [.box (List.map AV.p B0)]⟩) = J7f o := by
  unfold J9m at h
  obtain rfl := sj h
  try simp only [↓Da, Ua, J4C, J62, ↓reduceIte, Nat.reduceEqDiff, Nat.reduceAdd, Nat.reduceLT, Nat.reduceMul]
  rfl
def J4E (b0 : T_api_Index) (x3 : Int) : Option (((Int) ⊕ (Bool))) :=
  if (decide (x3 < ((List.length b0.Rows : Nat) : Int))) then
    Option.bind (idx b0.Rows x3) fun y2 =>
    Option.bind (J6s y2.LSN) fun r5 =>
    if r5 then
      Option.bind (J6s y2.Image) fun r9 =>
      if r9 then
        Option.bind (J6s y2.ImageLSN) fun r13 =>
        if r13 then
          if ((y2.Image : Int) == 0) then
            if ((y2.ImageLSN : Int) != 0) then
              some (.inr false)
            else
              some (.inl (IntKind.wrap .i64 (x3 + 1)))
          else
            some (.inl (IntKind.wrap .i64 (x3 + 1)))
        else
          some (.inr false)
      else
        some (.inr false)
    else
      some (.inr false)
  else
    Option.map (fun o => .inr o) (J9m)
theorem Jdw {b0 : T_api_Index} {x3 : Int} {o : ((Int) ⊕ (Bool))} (h : J4E b0 x3 = some o) :
    rk (J1 p) J2E 0 [.lo 1 [1, 3] J0v, .bl 0, .td 1 [2], .sq (.keep [] J4C)] (X (J1 p) J0v ⟨[(1, .ptr 0 0), (3, .p (.i .i64 x3))], [.box (List.map AV.p (Jj b0))]⟩) = (Jkx p b0) o := by
  unfold J4E at h
  rcases J9 h with ⟨h1, h⟩ | ⟨h1, h⟩
  · obtain ⟨y2, h3, h⟩ := bi h
    have f4 := J5J (r := Je) h3
    try simp only [Nf, J5] at f4
    obtain ⟨r5, h6, h⟩ := bi h
    have f7 := Je1 p h6
    try simp only [Nf, J5] at f7
    try simp only [↓Da, Ua, J0v, J5, Jk, *, ↓reduceIte, Nat.reduceEqDiff, Nat.reduceAdd, Nat.reduceLT, Nat.reduceMul]
    rcases J9 h with ⟨h8, h⟩ | ⟨h8, h⟩
    · obtain ⟨r9, h10, h⟩ := bi h
      have f11 := Je1 p h10
      try simp only [Nf, J5] at f11
      try simp only [↓Da, Ua, J0v, J5, Jk, *, ↓reduceIte, Nat.reduceEqDiff, Nat.reduceAdd, Nat.reduceLT, Nat.reduceMul]
      rcases J9 h with ⟨h12, h⟩ | ⟨h12, h⟩
      · obtain ⟨r13, h14, h⟩ := bi h
        have f15 := Je1 p h14
        try simp only [Nf, J5] at f15
        try simp only [↓Da, Ua, J0v, J5, Jk, *, ↓reduceIte, Nat.reduceEqDiff, Nat.reduceAdd, Nat.reduceLT, Nat.reduceMul]
        rcases J9 h with ⟨h16, h⟩ | ⟨h16, h⟩
        · try simp only [↓Da, Ua, J0v, J5, Jk, *, ↓reduceIte, Nat.reduceEqDiff, Nat.reduceAdd, Nat.reduceLT, Nat.reduceMul]
          rcases J9 h with ⟨h17, h⟩ | ⟨h17, h⟩
          · have h17n : ((y2.Image : Int) != 0) = false := by rw [bne, h17]; rfl
            try simp only [↓Da, Ua, J0v, J5, Jk, *, ↓reduceIte, Nat.reduceEqDiff, Nat.reduceAdd, Nat.reduceLT, Nat.reduceMul]
            rcases J9 h with ⟨h18, h⟩ | ⟨h18, h⟩
            · obtain rfl := sj h
              try simp only [↓Da, Ua, J0v, J5, Jk, J62, *, ↓reduceIte, Nat.reduceEqDiff, Nat.reduceAdd, Nat.reduceLT, Nat.reduceMul]
              rfl
            · obtain rfl := sj h
              try simp only [↓Da, Ua, J0v, J5, Jk, *, ↓reduceIte, Nat.reduceEqDiff, Nat.reduceAdd, Nat.reduceLT, Nat.reduceMul]
              rfl
          · have h17n : ((y2.Image : Int) != 0) = true := by rw [bne, h17]; rfl
            obtain rfl := sj h
            try simp only [↓Da, Ua, J0v, J5, Jk, *, ↓reduceIte, Nat.reduceEqDiff, Nat.reduceAdd, Nat.reduceLT, Nat.reduceMul]
            rfl
        · obtain rfl := sj h
          try simp only [↓Da, Ua, J0v, J5, Jk, J62, *, ↓reduceIte, Nat.reduceEqDiff, Nat.reduceAdd, Nat.reduceLT, Nat.reduceMul]
          rfl
      · obtain rfl := sj h
        try simp only [↓Da, Ua, J0v, J5, Jk, J62, *, ↓reduceIte, Nat.reduceEqDiff, Nat.reduceAdd, Nat.reduceLT, Nat.reduceMul]
        rfl
    · obtain rfl := sj h
      try simp only [↓Da, Ua, J0v, J5, Jk, J62, *, ↓reduceIte, Nat.reduceEqDiff, Nat.reduceAdd, Nat.reduceLT, Nat.reduceMul]
      rfl
  · obtain ⟨o', h', rfl⟩ := mi h
    try simp only [↓Da, Ua, J0v, J5, Jk, *, ↓reduceIte, Nat.reduceEqDiff, Nat.reduceAdd, Nat.reduceLT, Nat.reduceMul]
    have e0 := JjN p (B0 := (Jj b0)) h'
    exact e0
def Jbf (b0 : T_api_Index) (s : Int) : Option (Bool) :=
  JK (fun s => J4E b0 s) s
theorem JhU {b0 : T_api_Index} {s : Int} {o : Bool} (h : Jbf b0 s = some o) :
    rk (J1 p) J2E 0 [.bl 0, .td 1 [2], .sq (.keep [] J4C)] (X (J1 p) (.lp 1 [1, 3] J0v) ⟨[(1, .ptr 0 0), (3, .p (.i .i64 s))], [.box (List.map AV.p (Jj b0))]⟩) = J7f o := by
  have h0 : JK (fun s => J4E b0 s) s = some o := h
  exact J10 (P := fun (s : Int) (o : Bool) => rk (J1 p) J2E 0 [.bl 0, .td 1 [2], .sq (.keep [] J4C)] (X (J1 p) (.lp 1 [1, 3] J0v) ⟨[(1, .ptr 0 0), (3, .p (.i .i64 s))], [.box (List.map AV.p (Jj b0))]⟩) = J7f o) (fun s r hs => by rw [J0Z]; exact Jdw p hs) (fun s s1 r hs ih => by rw [J0Z]; exact (Jdw p hs).trans ih) h0
def J68 (x0 : T_api_Index) : Option (Bool) :=
  if (decide (((List.length x0.Rows : Nat) : Int) < 1)) then
    some false
  else
    if (decide (((List.length x0.Rows : Nat) : Int) > 64)) then
      some false
    else
      Jbf x0 0
theorem JhP {x0 : T_api_Index} {o : Bool} (h : J68 x0 = some o) :
    rk (J1 p) J2E 0 [] (X (J1 p) J55 ⟨[(0, .data (Jj x0))], []⟩) = J7f o := by
  unfold J68 at h
  rcases J9 h with ⟨h1, h⟩ | ⟨h1, h⟩
  · obtain rfl := sj h
    try simp only [↓Da, Ua, J55, J5, Jk, J62, *, ↓reduceIte, Nat.reduceEqDiff, Nat.reduceAdd, Nat.reduceLT, Nat.reduceMul]
    rfl
  · try simp only [↓Da, Ua, J55, J5, Jk, *, ↓reduceIte, Nat.reduceEqDiff, Nat.reduceAdd, Nat.reduceLT, Nat.reduceMul]
    rcases J9 h with ⟨h2, h⟩ | ⟨h2, h⟩
    · obtain rfl := sj h
      try simp only [↓Da, Ua, J55, J5, Jk, J62, *, ↓reduceIte, Nat.reduceEqDiff, Nat.reduceAdd, Nat.reduceLT, Nat.reduceMul]
      rfl
    · try simp only [↓Da, Ua, J55, J5, Jk, *, ↓reduceIte, Nat.reduceEqDiff, Nat.reduceAdd, Nat.reduceLT, Nat.reduceMul]
      have e0 := JhU p h
      exact e0
theorem JmR {x0 : T_api_Index} {o : Bool} (h : J68 x0 = some o) : AF (J1 p) J7i [.data (Jj x0)] [] = J7f o :=
  (J0j (J1 p) (JmZ p) rfl).trans (JhP p h)
theorem JmC {x0 : T_api_Index} {o : Bool} (h : J68 x0 = some o) : ∀ ws new st, (Jq (AF (J1 p)) J7i ([.data (Jj x0)], ws) 0 new).run st = some ⟨.p (.b o), ws⟩ := Jz rfl (JmR p h) rfl
def JfI  (r : Bool) : Option Res := some (.p (.b r), [])
def J1P (x0 : T_api_Page) : Option (Bool) :=
  Option.bind (J2F x0.ID) fun r1 =>
  if r1 then
    if (decide (x0.LSN ≥ 0)) then
      some (decide (x0.LSN ≤ 1099511627776))
    else
      some false
  else
    some false
theorem Jhr {x0 : T_api_Page} {o : Bool} (h : J1P x0 = some o) :
    rk (J1 p) J7n 0 [] (X (J1 p) J3Z ⟨[(0, .data (J4 x0))], []⟩) = JfI o := by
  unfold J1P at h
  obtain ⟨r1, h2, h⟩ := bi h
  have f3 := JgR p h2
  try simp only [Nf] at f3
  try simp only [↓Da, Ua, J3Z, J3, J2, J6, *, ↓reduceIte, Nat.reduceEqDiff, Nat.reduceAdd, Nat.reduceLT, Nat.reduceMul]
  rcases J9 h with ⟨h4, h⟩ | ⟨h4, h⟩
  · try simp only [↓Da, Ua, J3Z, J3, J2, J6, *, ↓reduceIte, Nat.reduceEqDiff, Nat.reduceAdd, Nat.reduceLT, Nat.reduceMul]
    rcases J9 h with ⟨h5, h⟩ | ⟨h5, h⟩
    · obtain rfl := sj h
      try simp only [↓Da, Ua, J3Z, J3, J2, J6, JbY, *, ↓reduceIte, Nat.reduceEqDiff, Nat.reduceAdd, Nat.reduceLT, Nat.reduceMul]
      rfl
    · obtain rfl := sj h
      try simp only [↓Da, Ua, J3Z, J3, J2, J6, JbY, *, ↓reduceIte, Nat.reduceEqDiff, Nat.reduceAdd, Nat.reduceLT, Nat.reduceMul]
      rfl
  · obtain rfl := sj h
    try simp only [↓Da, Ua, J3Z, J3, J2, J6, JbY, *, ↓reduceIte, Nat.reduceEqDiff, Nat.reduceAdd, Nat.reduceLT, Nat.reduceMul]
    rfl
theorem JmB {x0 : T_api_Page} {o : Bool} (h : J1P x0 = some o) : AF (J1 p) J7s [.data (J4 x0)] [] = JfI o :=
  (J0j (J1 p) (JmL p) rfl).trans (Jhr p h)
theorem Jmn {x0 : T_api_Page} {o : Bool} (h : J1P x0 = some o) : ∀ ws new st, (Jq (AF (J1 p)) J7s ([.data (J4 x0)], ws) 0 new).run st = some ⟨.p (.b o), ws⟩ := Jz rfl (JmB p h) rfl
def J9f  (r : T_page_builder) : Option Res := some (.tup [], [.box (List.map AV.p (J11 r))])
def J1H (x4 : Int) (b0 : T_page_builder) (b1 : J8) : Option (T_page_builder) :=
  Option.bind (J6x b0.s_ x4 1) fun r1 =>
  Option.bind (J4a r1 b1.Data) fun s5 =>
  Option.bind (J46 ([0]) (IntKind.wrap .i64 (12 - ((List.length b1.Data : Nat) : Int)))) fun r7 =>
  Option.bind (J4a s5 r7) fun s11 =>
  some (⟨s11⟩ : T_page_builder)
theorem JaN {x4 : Int} {b0 : T_page_builder} {b1 : J8} {o : T_page_builder} (h : J1H x4 b0 b1 = some o) :
    rk (J1 p) J2U 1 [] (X (J1 p) J88 ⟨[(0, .ptr 0 0), (3, .ptr 1 0), (4, .p (.i .i64 x4))], [.box (List.map AV.p (J11 b0)), .box (List.map AV.p (Jh b1))]⟩) = J9f o := by
  unfold J1H at h
  obtain ⟨r1, h2, h⟩ := bi h
  have f3 := Jak p h2
  try simp only [Nf, JS] at f3
  have f4 : ∀ ws k new s, Jm ((Jq (AF (J1 p)) J2r ([.p (.s b0.s_), .p (.i .i64 x4), .p (.i .i64 1)], ws) k new).reads s) = [] := J1x rfl
  try simp only [Nf, JS] at f4
  obtain ⟨s5, h6, h⟩ := bi h
  obtain ⟨r7, h8, h⟩ := bi h
  have f9 := JaC p h8
  try simp only [Nf, JS] at f9
  have f10 : ∀ ws k new s, Jm ((Jq (AF (J1 p)) J2C ([.p (.s [0]), .p (.i .i64 (IntKind.wrap .i64 (12 - ((List.length b1.Data : Nat) : Int))))], ws) k new).reads s) = [] := J1x rfl
  try simp only [Nf, JS] at f10
  obtain ⟨s11, h12, h⟩ := bi h
  obtain rfl := sj h
  try simp only [↓Da, Ua, Ra, J88, J3, JS, Jgc, *, ↓reduceIte, Nat.reduceEqDiff, Nat.reduceAdd, Nat.reduceLT, Nat.reduceMul, Nat.reduceBEq]
  rfl
def J29 (b0 : T_page_builder) (x1 : J8) : Option (T_page_builder) :=
  if x1.Set then
    J1H ((List.length x1.Data : Nat) : Int) b0 x1
  else
    J1H 255 b0 x1
theorem Jdm {b0 : T_page_builder} {x1 : J8} {o : T_page_builder} (h : J29 b0 x1 = some o) :
    rk (J1 p) J2U 1 [] (X (J1 p) J3J ⟨[(0, .ptr 0 0), (1, .data (Jh x1))], [.box (List.map AV.p (J11 b0))]⟩) = J9f o := by
  unfold J29 at h
  rcases J9 h with ⟨h1, h⟩ | ⟨h1, h⟩
  · try simp only [↓Da, Ua, J3J, J3, JS, *, ↓reduceIte, Nat.reduceEqDiff, Nat.reduceAdd, Nat.reduceLT, Nat.reduceMul]
    have e0 := JaN p h
    exact e0
  · try simp only [↓Da, Ua, J3J, J3, JS, *, ↓reduceIte, Nat.reduceEqDiff, Nat.reduceAdd, Nat.reduceLT, Nat.reduceMul]
    have e0 := JaN p h
    exact e0
theorem Jg0 {b0 : T_page_builder} {x1 : J8} {o : T_page_builder} (h : J29 b0 x1 = some o) : AF (J1 p) J1h [.ptr 0 0, .data (Jh x1)] [.box (List.map AV.p (J11 b0))] = J9f o :=
  (J0j (J1 p) (Jgb p) rfl).trans (Jdm p h)
def J9b  (r : Int) : Option Res := some (.p (.i .u32 r), [])
def Jmv (x0 : List UInt8) (x8 : Int) (b0 : Vector Int 16) (o : (Int × Int) ⊕ (Int)) : Option Res := match o with
  | .inl s => rk (J1 p) J3S 0 [.bl 0, .sq (.keep [4] J66)] (X (J1 p) (.lp 1 [0, 3, 4, 8, 9] J56) ⟨[(0, .p (.s x0)), (3, .ptr 0 0), (4, .p (.i .u32 s.1)), (8, .p (.i .i64 x8)), (9, .p (.i .i64 s.2))], [.box (List.map AV.p ((JO (r_i .u32)) b0))]⟩)
  | .inr o => J9b o
def J8M (x4 : Int) : Option (Int) :=
  some (JqX .u32 x4)
theorem Jmi {x4 : Int} {B0 : List PV} {o : Int} (h : J8M x4 = some o) :
    rk (J1 p) J3S 0 [] (X (J1 p) J66 ⟨[(4, .p (.i .u32 x4))], [.box (List.map AV.p B0)]⟩) = J9b o := by
  unfold J8M at h
  obtain rfl := sj h
  try simp only [↓Da, Ua, J66, JpB, ↓reduceIte, Nat.reduceEqDiff, Nat.reduceAdd, Nat.reduceLT, Nat.reduceMul]
  rfl
def J3g (x0 : List UInt8) (x8 : Int) (b0 : Vector Int 16) (x4 : Int) (x9 : Int) : Option (((Int × Int) ⊕ (Int))) :=
  if (decide (x9 < x8)) then
    Option.bind (Jd6 x0 x9) fun c2 =>
    Option.bind (Jaz .u32 (J5S .u32 x4 (IntKind.wrap .u32 c2)) 4) fun q4 =>
    Option.bind (inb 16 (J5z .u32 (J5S .u32 x4 (IntKind.wrap .u32 c2)) 15)) fun u6 =>
    Option.bind (J6Z b0 (J5z .u32 (J5S .u32 x4 (IntKind.wrap .u32 c2)) 15)) fun y9 =>
    Option.bind (Jaz .u32 (J5S .u32 q4 y9) 4) fun q12 =>
    Option.bind (inb 16 (J5z .u32 (J5S .u32 q4 y9) 15)) fun u14 =>
    Option.bind (J6Z b0 (J5z .u32 (J5S .u32 q4 y9) 15)) fun y17 =>
    some (.inl ((J5S .u32 q12 y17), (IntKind.wrap .i64 (x9 + 1))))
  else
    Option.map (fun o => .inr o) (J8M x4)
theorem JfT {x0 : List UInt8} {x8 : Int} {b0 : Vector Int 16} {x4 : Int} {x9 : Int} {o : ((Int × Int) ⊕ (Int))} (h : J3g x0 x8 b0 x4 x9 = some o) :
    rk (J1 p) J3S 0 [.lo 1 [0, 3, 4, 8, 9] J56, .bl 0, .sq (.keep [4] J66)] (X (J1 p) J56 ⟨[(0, .p (.s x0)), (3, .ptr 0 0), (4, .p (.i .u32 x4)), (8, .p (.i .i64 x8)), (9, .p (.i .i64 x9))], [.box (List.map AV.p ((JO (r_i .u32)) b0))]⟩) = (Jmv p x0 x8 b0) o := by
  unfold J3g at h
  rcases J9 h with ⟨h1, h⟩ | ⟨h1, h⟩
  · obtain ⟨c2, h3, h⟩ := bi h
    obtain ⟨q4, h5, h⟩ := bi h
    obtain ⟨u6, h7, h⟩ := bi h
    have f8 : (0 ≤ ((J5z .u32 (J5S .u32 x4 (IntKind.wrap .u32 c2)) 15) : Int) ∧ ((J5z .u32 (J5S .u32 x4 (IntKind.wrap .u32 c2)) 15) : Int) < ((16 : Nat) : Int)) = True := eq_true (J8h h7)
    obtain ⟨y9, h10, h⟩ := bi h
    have f11 : sub ((JO (r_i .u32)) b0) (Int.toNat (J5z .u32 (J5S .u32 x4 (IntKind.wrap .u32 c2)) 15) * 1) 1 = some ((r_i .u32) y9) := by
      have e0 := (J7y (v := b0) (J5j .u32) (J3a h10).2)
      exact e0
    try simp only [Nf] at f11
    obtain ⟨q12, h13, h⟩ := bi h
    obtain ⟨u14, h15, h⟩ := bi h
    have f16 : (0 ≤ ((J5z .u32 (J5S .u32 q4 y9) 15) : Int) ∧ ((J5z .u32 (J5S .u32 q4 y9) 15) : Int) < ((16 : Nat) : Int)) = True := eq_true (J8h h15)
    obtain ⟨y17, h18, h⟩ := bi h
    have f19 : sub ((JO (r_i .u32)) b0) (Int.toNat (J5z .u32 (J5S .u32 q4 y9) 15) * 1) 1 = some ((r_i .u32) y17) := by
      have e0 := (J7y (v := b0) (J5j .u32) (J3a h18).2)
      exact e0
    try simp only [Nf] at f19
    obtain rfl := sj h
    try simp only [↓Da, Ua, J56, J7J, *, ↓reduceIte, Nat.reduceEqDiff, Nat.reduceAdd, Nat.reduceLT, Nat.reduceMul]
    rfl
  · obtain ⟨o', h', rfl⟩ := mi h
    try simp only [↓Da, Ua, J56, J7J, *, ↓reduceIte, Nat.reduceEqDiff, Nat.reduceAdd, Nat.reduceLT, Nat.reduceMul]
    have e0 := Jmi p (B0 := ((JO (r_i .u32)) b0)) h'
    exact e0
def JfC (x0 : List UInt8) (x8 : Int) (b0 : Vector Int 16) (s : Int × Int) : Option (Int) :=
  JK (fun s => J3g x0 x8 b0 s.1 s.2) s
theorem Jkg {x0 : List UInt8} {x8 : Int} {b0 : Vector Int 16} {s : Int × Int} {o : Int} (h : JfC x0 x8 b0 s = some o) :
    rk (J1 p) J3S 0 [.bl 0, .sq (.keep [4] J66)] (X (J1 p) (.lp 1 [0, 3, 4, 8, 9] J56) ⟨[(0, .p (.s x0)), (3, .ptr 0 0), (4, .p (.i .u32 s.1)), (8, .p (.i .i64 x8)), (9, .p (.i .i64 s.2))], [.box (List.map AV.p ((JO (r_i .u32)) b0))]⟩) = J9b o := by
  have h0 : JK (fun s => J3g x0 x8 b0 s.1 s.2) s = some o := h
  exact J10 (P := fun (s : Int × Int) (o : Int) => rk (J1 p) J3S 0 [.bl 0, .sq (.keep [4] J66)] (X (J1 p) (.lp 1 [0, 3, 4, 8, 9] J56) ⟨[(0, .p (.s x0)), (3, .ptr 0 0), (4, .p (.i .u32 s.1)), (8, .p (.i .i64 x8)), (9, .p (.i .i64 s.2))], [.box (List.map AV.p ((JO (r_i .u32)) b0))]⟩) = J9b o) (fun s r hs => by rw [J0Z]; exact JfT p hs) (fun s s1 r hs ih => by rw [J0Z]; exact (JfT p hs).trans ih) h0
def J3f (x0 : List UInt8) : Option (Int) :=
  Option.bind (J35) fun r1 =>
  JfC x0 ((List.length x0 : Nat) : Int) r1 (4294967295, 0)
theorem JjO {x0 : List UInt8} {o : Int} (h : J3f x0 = some o) :
    rk (J1 p) J3S 0 [] (X (J1 p) Jao ⟨[(0, .p (.s x0))], []⟩) = J9b o := by
  unfold J3f at h
  obtain ⟨r1, h2, h⟩ := bi h
  have f3 := Jgu p h2
  try simp only [Nf] at f3
  try simp only [↓Da, Ua, Jao, J7J, *, ↓reduceIte, Nat.reduceEqDiff, Nat.reduceAdd, Nat.reduceLT, Nat.reduceMul]
  have e0 := Jkg p h
  exact e0
theorem Jpw {x0 : List UInt8} {o : Int} (h : J3f x0 = some o) : AF (J1 p) J6t [.p (.s x0)] [] = J9b o :=
  (J0j (J1 p) (Jps p) rfl).trans (JjO p h)
theorem Jih {x0 : List UInt8} {o : Int} (h : J3f x0 = some o) : ∀ ws new st, (Jq (AF (J1 p)) J6t ([.p (.s x0)], ws) 0 new).run st = some ⟨.p (.i .u32 o), ws⟩ := Jz rfl (Jpw p h) rfl
end
end Go.Am
end
