/-
  Parts of a proof: YteiakclfpfmigaaKS1, YteiakclfpfmigaaKS2, YteiakclfpfmigaaKS3.
-/
import Derived.Test.YteiakclfpfmigaaM7
set_option linter.unusedSimpArgs false
set_option linter.unusedVariables false
section
namespace Go.Am
set_option maxRecDepth 8000
set_option maxHeartbeats 4000000
set_option linter.unusedSimpArgs false
set_option linter.unusedVariables false
noncomputable section
variable (p : FuncId → Option (List AV → List Blk → Option Res))
def JdH  (r : T_pagemenddraw_Codes) : Option Res := some (.ptr 0 0, [.box (List.map AV.p (J0 r))])
def J8J (x0 : List Int) : Option (T_pagemenddraw_Codes) :=
  some (⟨x0, 0⟩ : T_pagemenddraw_Codes)
theorem Jfr {x0 : List Int} {o : T_pagemenddraw_Codes} (h : J8J x0 = some o) :
    rk (J2 p) J7V 0 [] (X (J2 p) Jc3 ⟨[(0, .p (.sl 1 (List.map (r_i .u8) x0)))], []⟩) = JdH o := by
  unfold J8J at h
  obtain rfl := sj h
  try simp only [↓Da, Ua, Jc3, Jd, JnF, ↓reduceIte, Nat.reduceEqDiff, Nat.reduceAdd, Nat.reduceLT, Nat.reduceMul]
  rfl
def J79 (x0 : List Int) (x1 : Int) : Option (T_pagemenddraw_Codes) :=
  if (decide (((List.length x0 : Nat) : Int) > x1)) then
    Option.bind (J7D x0 none (some x1)) fun m2 =>
    J8J m2
  else
    J8J x0
theorem JiX {x0 : List Int} {x1 : Int} {o : T_pagemenddraw_Codes} (h : J79 x0 x1 = some o) :
    rk (J2 p) J7V 0 [] (X (J2 p) J8T ⟨[(0, .p (.sl 1 (List.map (r_i .u8) x0))), (1, .p (.i .i64 x1))], []⟩) = JdH o := by
  unfold J79 at h
  rcases Jb h with ⟨h1, h⟩ | ⟨h1, h⟩
  · obtain ⟨m2, h3, h⟩ := bi h
    have f4 : J8C 1 (.p (.sl 1 (List.map (r_i .u8) x0))) none (some (.p (.i .i64 x1))) = some (.p (.sl 1 (List.map (r_i .u8) m2))) := JoS (k := .i64) (lo := none) (hi := (some x1)) h3
    try simp only [Nf] at f4
    try simp only [↓Da, Ua, J8T, Jd, *, ↓reduceIte, Nat.reduceEqDiff, Nat.reduceAdd, Nat.reduceLT, Nat.reduceMul]
    have e0 := Jfr p h
    exact e0
  · try simp only [↓Da, Ua, J8T, Jd, *, ↓reduceIte, Nat.reduceEqDiff, Nat.reduceAdd, Nat.reduceLT, Nat.reduceMul]
    have e0 := Jfr p h
    exact e0
theorem Jnx {x0 : List Int} {x1 : Int} {o : T_pagemenddraw_Codes} (h : J79 x0 x1 = some o) : AF (J2 p) J8W [.p (.sl 1 (List.map (r_i .u8) x0)), .p (.i .i64 x1)] [] = JdH o :=
  (J0s (J2 p) (Jo1 p) rfl).trans (JiX p h)
def J7t  (r : Int × T_pagemenddraw_Codes) : Option Res := some (.p (.i .i64 r.1), [.box (List.map AV.p (J0 r.2))])
def J2Y (rec : T_pagemenddraw_Codes → Int → Option (Int × T_pagemenddraw_Codes)) (b0 : T_pagemenddraw_Codes) (x1 : Int) : Option (Int × T_pagemenddraw_Codes) :=
  if (decide (b0.at_ ≥ ((List.length b0.l_ : Nat) : Int))) then
    some (0, b0)
  else
    if (decide (x1 < 1)) then
      some (0, b0)
    else
      Option.bind (idx b0.l_ b0.at_) fun y3 =>
      if (decide (x1 > 256)) then
        Option.bind (rec (⟨b0.l_, (IntKind.wrap .i64 (b0.at_ + 1))⟩ : T_pagemenddraw_Codes) 256) fun r7 =>
        Option.bind (JjF (IntKind.wrap .i64 ((IntKind.wrap .i64 (256 * (IntKind.wrap .i64 y3))) + r7.1)) x1) fun q10 =>
        some (q10, r7.2)
      else
        Option.bind (JjF (IntKind.wrap .i64 y3) x1) fun q12 =>
        some (q12, (⟨b0.l_, (IntKind.wrap .i64 (b0.at_ + 1))⟩ : T_pagemenddraw_Codes))
theorem Jdg {rec : T_pagemenddraw_Codes → Int → Option (Int × T_pagemenddraw_Codes)} (hrec : ∀ {b0 : T_pagemenddraw_Codes} {x1 : Int} {o : Int × T_pagemenddraw_Codes}, rec b0 x1 = some o → AF (J2 p) J9 [.ptr 0 0, .p (.i .i64 x1)] [.box (List.map AV.p (J0 b0))] = J7t o) {b0 : T_pagemenddraw_Codes} {x1 : Int} {o : Int × T_pagemenddraw_Codes} (h : J2Y rec b0 x1 = some o) :
    rk (J2 p) J4U 1 [] (X (J2 p) J1D ⟨[(0, .ptr 0 0), (1, .p (.i .i64 x1))], [.box (List.map AV.p (J0 b0))]⟩) = J7t o := by
  unfold J2Y at h
  rcases Jb h with ⟨h1, h⟩ | ⟨h1, h⟩
  · obtain rfl := sj h
    try simp only [↓Da, Ua, J1D, Jd, J7r, *, ↓reduceIte, Nat.reduceEqDiff, Nat.reduceAdd, Nat.reduceLT, Nat.reduceMul]
    rfl
  · try simp only [↓Da, Ua, J1D, Jd, *, ↓reduceIte, Nat.reduceEqDiff, Nat.reduceAdd, Nat.reduceLT, Nat.reduceMul]
    rcases Jb h with ⟨h2, h⟩ | ⟨h2, h⟩
    · obtain rfl := sj h
      try simp only [↓Da, Ua, J1D, Jd, J7r, *, ↓reduceIte, Nat.reduceEqDiff, Nat.reduceAdd, Nat.reduceLT, Nat.reduceMul]
      rfl
    · obtain ⟨y3, h4, h⟩ := bi h
      have f5 := J2R (r := (r_i .u8)) h4
      try simp only [Nf] at f5
      try simp only [↓Da, Ua, J1D, Jd, *, ↓reduceIte, Nat.reduceEqDiff, Nat.reduceAdd, Nat.reduceLT, Nat.reduceMul]
      rcases Jb h with ⟨h6, h⟩ | ⟨h6, h⟩
      · obtain ⟨r7, h8, h⟩ := bi h
        have f9 : ∀ ws new s, JB ws s [0] [List.map AV.p (J0 (⟨b0.l_, (IntKind.wrap .i64 (b0.at_ + 1))⟩ : T_pagemenddraw_Codes))] → (Jo (AF (J2 p)) J9 ([.ptr 0 0, .p (.i .i64 256)], ws) 0 new).run s = some ⟨.p (.i .i64 r7.1), ws ++ [(0, .box (List.map AV.p (J0 r7.2)))]⟩ := Jw (args' := [.ptr 0 0, .p (.i .i64 256)]) (bs := [0]) (css := [List.map AV.p (J0 (⟨b0.l_, (IntKind.wrap .i64 (b0.at_ + 1))⟩ : T_pagemenddraw_Codes))]) (css' := [List.map AV.p (J0 r7.2)]) rfl rfl rfl (by simp [Ji, J6]) (hrec h8) rfl rfl (by simp [Ji, J6])
        try simp only [Nf] at f9
        obtain ⟨q10, h11, h⟩ := bi h
        obtain rfl := sj h
        try simp only [↓Da, Ua, J1D, Jd, J7r, *, ↓reduceIte, Nat.reduceEqDiff, Nat.reduceAdd, Nat.reduceLT, Nat.reduceMul]
        rfl
      · obtain ⟨q12, h13, h⟩ := bi h
        obtain rfl := sj h
        try simp only [↓Da, Ua, J1D, Jd, J7r, *, ↓reduceIte, Nat.reduceEqDiff, Nat.reduceAdd, Nat.reduceLT, Nat.reduceMul]
        rfl
def J0S : Nat → T_pagemenddraw_Codes → Int → Option (Int × T_pagemenddraw_Codes)
  | 0 => fun _ _ => none
  | n + 1 => J2Y (J0S n)
def Js : T_pagemenddraw_Codes → Int → Option (Int × T_pagemenddraw_Codes) := J0S 12
theorem Jad : ∀ n, ∀ {b0 : T_pagemenddraw_Codes} {x1 : Int} {o : Int × T_pagemenddraw_Codes}, J0S n b0 x1 = some o → AF (J2 p) J9 [.ptr 0 0, .p (.i .i64 x1)] [.box (List.map AV.p (J0 b0))] = J7t o
  | 0 => fun h => by cases h
  | n + 1 => fun h => (J0s (J2 p) (Jgs p) rfl).trans (Jdg p (Jad n) h)
theorem Ju {b0 : T_pagemenddraw_Codes} {x1 : Int} {o : Int × T_pagemenddraw_Codes} (h : Js b0 x1 = some o) : AF (J2 p) J9 [.ptr 0 0, .p (.i .i64 x1)] [.box (List.map AV.p (J0 b0))] = J7t o := Jad p 12 h
def J7J  (r : Bool) : Option Res := some (.p (.b r), [])
def Jjn (b0 : T_api_Index) (b1 : T_api_Index) (o : (Int) ⊕ (Bool)) : Option Res := match o with
  | .inl s => rk (J2 p) J3f 0 [.bl 0, .sq (.keep [] J5a)] (X (J2 p) (.lp 2 [2, 3, 5] J2M) ⟨[(2, .ptr 0 0), (3, .ptr 1 0), (5, .p (.i .i64 s))], [.box (List.map AV.p (J5 b0)), .box (List.map AV.p (J5 b1))]⟩)
  | .inr o => J7J o
def J8X  : Option (Bool) :=
  some true
theorem Jjg {B0 : List PV} {B1 : List PV} {o : Bool} (h : J8X = some o) :
    rk (J2 p) J3f 0 [] (X (J2 p) J5a ⟨[], [.box (List.map AV.p B0), .box (List.map AV.p B1)]⟩) = J7J o := by
  unfold J8X at h
  obtain rfl := sj h
  try simp only [↓Da, Ua, J5a, Jbu, ↓reduceIte, Nat.reduceEqDiff, Nat.reduceAdd, Nat.reduceLT, Nat.reduceMul]
  rfl
def J5i (b0 : T_api_Index) (b1 : T_api_Index) (x5 : Int) : Option (((Int) ⊕ (Bool))) :=
  if (decide (x5 < ((List.length b0.Rows : Nat) : Int))) then
    Option.bind (idx b0.Rows x5) fun y2 =>
    Option.bind (idx b1.Rows x5) fun y5 =>
    if (y2 == y5) then
      some (.inl (IntKind.wrap .i64 (x5 + 1)))
    else
      some (.inr false)
  else
    Option.map (fun o => .inr o) (J8X)
theorem Jd6 {b0 : T_api_Index} {b1 : T_api_Index} {x5 : Int} {o : ((Int) ⊕ (Bool))} (h : J5i b0 b1 x5 = some o) :
    rk (J2 p) J3f 0 [.lo 2 [2, 3, 5] J2M, .bl 0, .sq (.keep [] J5a)] (X (J2 p) J2M ⟨[(2, .ptr 0 0), (3, .ptr 1 0), (5, .p (.i .i64 x5))], [.box (List.map AV.p (J5 b0)), .box (List.map AV.p (J5 b1))]⟩) = (Jjn p b0 b1) o := by
  unfold J5i at h
  rcases Jb h with ⟨h1, h⟩ | ⟨h1, h⟩
  · obtain ⟨y2, h3, h⟩ := bi h
    have f4 := J2R (r := J7) h3
    try simp only [Nf, J1] at f4
    obtain ⟨y5, h6, h⟩ := bi h
    have f7 := J2R (r := J7) h6
    try simp only [Nf, J1] at f7
    try simp only [↓Da, Ua, J2M, J1, Je, JcR, *, ↓reduceIte, Nat.reduceEqDiff, Nat.reduceAdd, Nat.reduceLT, Nat.reduceMul]
    rcases Jb h with ⟨h9, h⟩ | ⟨h9, h⟩
    · obtain rfl := sj h
      try simp only [↓Da, Ua, J2M, J1, Je, JcR, *, ↓reduceIte, Nat.reduceEqDiff, Nat.reduceAdd, Nat.reduceLT, Nat.reduceMul]
      rfl
    · obtain rfl := sj h
      try simp only [↓Da, Ua, J2M, J1, Je, JcR, Jbu, *, ↓reduceIte, Nat.reduceEqDiff, Nat.reduceAdd, Nat.reduceLT, Nat.reduceMul]
      rfl
  · obtain ⟨o', h', rfl⟩ := mi h
    try simp only [↓Da, Ua, J2M, J1, Je, *, ↓reduceIte, Nat.reduceEqDiff, Nat.reduceAdd, Nat.reduceLT, Nat.reduceMul]
    have e0 := Jjg p (B0 := (J5 b0)) (B1 := (J5 b1)) h'
    exact e0
def Jah (b0 : T_api_Index) (b1 : T_api_Index) (s : Int) : Option (Bool) :=
  J00 (fun s => J5i b0 b1 s) s
theorem JhD {b0 : T_api_Index} {b1 : T_api_Index} {s : Int} {o : Bool} (h : Jah b0 b1 s = some o) :
    rk (J2 p) J3f 0 [.bl 0, .sq (.keep [] J5a)] (X (J2 p) (.lp 2 [2, 3, 5] J2M) ⟨[(2, .ptr 0 0), (3, .ptr 1 0), (5, .p (.i .i64 s))], [.box (List.map AV.p (J5 b0)), .box (List.map AV.p (J5 b1))]⟩) = J7J o := by
  have h0 : J00 (fun s => J5i b0 b1 s) s = some o := h
  exact J2k (P := fun (s : Int) (o : Bool) => rk (J2 p) J3f 0 [.bl 0, .sq (.keep [] J5a)] (X (J2 p) (.lp 2 [2, 3, 5] J2M) ⟨[(2, .ptr 0 0), (3, .ptr 1 0), (5, .p (.i .i64 s))], [.box (List.map AV.p (J5 b0)), .box (List.map AV.p (J5 b1))]⟩) = J7J o) (fun s r hs => by rw [J2e]; exact Jd6 p hs) (fun s s1 r hs ih => by rw [J2e]; exact (Jd6 p hs).trans ih) h0
def J2D (x0 : T_api_Index) (x1 : T_api_Index) : Option (Bool) :=
  if ((((List.length x0.Rows : Nat) : Int) : Int) != ((List.length x1.Rows : Nat) : Int)) then
    some false
  else
    Jah x0 x1 0
theorem Jhb {x0 : T_api_Index} {x1 : T_api_Index} {o : Bool} (h : J2D x0 x1 = some o) :
    rk (J2 p) J3f 0 [] (X (J2 p) J7F ⟨[(0, .data (J5 x0)), (1, .data (J5 x1))], []⟩) = J7J o := by
  unfold J2D at h
  rcases Jb h with ⟨h1, h⟩ | ⟨h1, h⟩
  · obtain rfl := sj h
    try simp only [↓Da, Ua, J7F, J1, Je, Jbu, *, ↓reduceIte, Nat.reduceEqDiff, Nat.reduceAdd, Nat.reduceLT, Nat.reduceMul]
    rfl
  · try simp only [↓Da, Ua, J7F, J1, Je, *, ↓reduceIte, Nat.reduceEqDiff, Nat.reduceAdd, Nat.reduceLT, Nat.reduceMul]
    have e0 := JhD p h
    exact e0
theorem JlU {x0 : T_api_Index} {x1 : T_api_Index} {o : Bool} (h : J2D x0 x1 = some o) : AF (J2 p) J4J [.data (J5 x0), .data (J5 x1)] [] = J7J o :=
  (J0s (J2 p) (Jmf p) rfl).trans (Jhb p h)
theorem J8I {x0 : T_api_Index} {x1 : T_api_Index} {o : Bool} (h : J2D x0 x1 = some o) : ∀ ws new st, (Jo (AF (J2 p)) J4J ([.data (J5 x0), .data (J5 x1)], ws) 0 new).run st = some ⟨.p (.b o), ws⟩ := JN rfl (JlU p h) rfl
def Ja9  (r : (List UInt8) × T_pagemenddraw_Codes) : Option Res := some (.p (.s r.1), [.box (List.map AV.p (J0 r.2))])
def J3P (b0 : T_pagemenddraw_Codes) (x1 : List UInt8) : Option ((List UInt8) × T_pagemenddraw_Codes) :=
  if ((((List.length x1 : Nat) : Int) : Int) == 0) then
    Option.bind (Js b0 256) fun r2 =>
    some ((toStr ([(IntKind.wrap .u8 r2.1)] : List Int)), r2.2)
  else
    Option.bind (Js b0 ((List.length x1 : Nat) : Int)) fun r6 =>
    Option.bind (Js r6.2 4) fun r9 =>
    if ((r9.1 : Int) == 0) then
      Option.bind (J7D x1 none (some r6.1)) fun m13 =>
      Option.bind (J7D x1 (some (IntKind.wrap .i64 (r6.1 + 1))) none) fun m16 =>
      Option.bind (J9U m13 m16) fun s19 =>
      some (s19, r9.2)
    else
      if ((r9.1 : Int) == 1) then
        Option.bind (Js r9.2 256) fun r22 =>
        Option.bind (J9U x1 (toStr ([(IntKind.wrap .u8 r22.1)] : List Int))) fun s26 =>
        some (s26, r22.2)
      else
        Option.bind (J7D x1 none (some r6.1)) fun m28 =>
        Option.bind (Jfi x1 r6.1) fun c31 =>
        Option.bind (Js r9.2 255) fun r33 =>
        Option.bind (J9U m28 (toStr ([(JnO .u8 c31 (IntKind.wrap .u8 (IntKind.wrap .i64 (1 + r33.1))))] : List Int))) fun s37 =>
        Option.bind (J7D x1 (some (IntKind.wrap .i64 (r6.1 + 1))) none) fun m39 =>
        Option.bind (J9U s37 m39) fun s42 =>
        some (s42, r33.2)
theorem Jc5 {b0 : T_pagemenddraw_Codes} {x1 : List UInt8} {o : (List UInt8) × T_pagemenddraw_Codes} (h : J3P b0 x1 = some o) :
    rk (J2 p) J3U 1 [] (X (J2 p) J1f ⟨[(0, .ptr 0 0), (1, .p (.s x1))], [.box (List.map AV.p (J0 b0))]⟩) = Ja9 o := by
  unfold J3P at h
  rcases Jb h with ⟨h1, h⟩ | ⟨h1, h⟩
  · have h1n : ((((List.length x1 : Nat) : Int) : Int) != 0) = false := by rw [bne, h1]; rfl
    obtain ⟨r2, h3, h⟩ := bi h
    have f4 : ∀ ws new s, JB ws s [0] [List.map AV.p (J0 b0)] → (Jo (AF (J2 p)) J9 ([.ptr 0 0, .p (.i .i64 256)], ws) 0 new).run s = some ⟨.p (.i .i64 r2.1), ws ++ [(0, .box (List.map AV.p (J0 r2.2)))]⟩ := Jw (args' := [.ptr 0 0, .p (.i .i64 256)]) (bs := [0]) (css := [List.map AV.p (J0 b0)]) (css' := [List.map AV.p (J0 r2.2)]) rfl rfl rfl (by simp [Ji, J6]) (Ju p h3) rfl rfl (by simp [Ji, J6])
    try simp only [Nf] at f4
    have f5 : ∀ env sto new, (cvR .toStr (.p (.sl 1 (List.map (r_i .u8) ([(IntKind.wrap .u8 r2.1)] : List Int)))) new).run ⟨env, sto⟩ = some ⟨.p (.s (toStr ([(IntKind.wrap .u8 r2.1)] : List Int))), []⟩ := fun env sto new => Jle env sto _ new
    try simp only [Nf] at f5
    obtain rfl := sj h
    try simp only [↓Da, Ua, J1f, Jd, J6F, *, ↓reduceIte, Nat.reduceEqDiff, Nat.reduceAdd, Nat.reduceLT, Nat.reduceMul]
    rfl
  · have h1n : ((((List.length x1 : Nat) : Int) : Int) != 0) = true := by rw [bne, h1]; rfl
    obtain ⟨r6, h7, h⟩ := bi h
    have f8 : ∀ ws new s, JB ws s [0] [List.map AV.p (J0 b0)] → (Jo (AF (J2 p)) J9 ([.ptr 0 0, .p (.i .i64 ((List.length x1 : Nat) : Int))], ws) 0 new).run s = some ⟨.p (.i .i64 r6.1), ws ++ [(0, .box (List.map AV.p (J0 r6.2)))]⟩ := Jw (args' := [.ptr 0 0, .p (.i .i64 ((List.length x1 : Nat) : Int))]) (bs := [0]) (css := [List.map AV.p (J0 b0)]) (css' := [List.map AV.p (J0 r6.2)]) rfl rfl rfl (by simp [Ji, J6]) (Ju p h7) rfl rfl (by simp [Ji, J6])
    try simp only [Nf] at f8
    obtain ⟨r9, h10, h⟩ := bi h
    have f11 : ∀ ws new s, JB ws s [0] [List.map AV.p (J0 r6.2)] → (Jo (AF (J2 p)) J9 ([.ptr 0 0, .p (.i .i64 4)], ws) 0 new).run s = some ⟨.p (.i .i64 r9.1), ws ++ [(0, .box (List.map AV.p (J0 r9.2)))]⟩ := Jw (args' := [.ptr 0 0, .p (.i .i64 4)]) (bs := [0]) (css := [List.map AV.p (J0 r6.2)]) (css' := [List.map AV.p (J0 r9.2)]) rfl rfl rfl (by simp [Ji, J6]) (Ju p h10) rfl rfl (by simp [Ji, J6])
    try simp only [Nf] at f11
    try simp only [↓Da, Ua, J1f, Jd, *, ↓reduceIte, Nat.reduceEqDiff, Nat.reduceAdd, Nat.reduceLT, Nat.reduceMul]
    rcases Jb h with ⟨h12, h⟩ | ⟨h12, h⟩
    · have h12n : ((r9.1 : Int) != 0) = false := by rw [bne, h12]; rfl
      obtain ⟨m13, h14, h⟩ := bi h
      have f15 : J61 (.p (.s x1)) none (some (.p (.i .i64 r6.1))) = some (.p (.s m13)) := J9t (k := .i64) (lo := none) (hi := (some r6.1)) h14
      try simp only [Nf] at f15
      obtain ⟨m16, h17, h⟩ := bi h
      have f18 : J61 (.p (.s x1)) (some (.p (.i .i64 (IntKind.wrap .i64 (r6.1 + 1))))) none = some (.p (.s m16)) := J9t (k := .i64) (lo := (some (IntKind.wrap .i64 (r6.1 + 1)))) (hi := none) h17
      try simp only [Nf] at f18
      obtain ⟨s19, h20, h⟩ := bi h
      obtain rfl := sj h
      try simp only [↓Da, Ua, J1f, Jd, J6F, *, ↓reduceIte, Nat.reduceEqDiff, Nat.reduceAdd, Nat.reduceLT, Nat.reduceMul]
      rfl
    · have h12n : ((r9.1 : Int) != 0) = true := by rw [bne, h12]; rfl
      try simp only [↓Da, Ua, J1f, Jd, *, ↓reduceIte, Nat.reduceEqDiff, Nat.reduceAdd, Nat.reduceLT, Nat.reduceMul]
      rcases Jb h with ⟨h21, h⟩ | ⟨h21, h⟩
      · have h21n : ((r9.1 : Int) != 1) = false := by rw [bne, h21]; rfl
        obtain ⟨r22, h23, h⟩ := bi h
        have f24 : ∀ ws new s, JB ws s [0] [List.map AV.p (J0 r9.2)] → (Jo (AF (J2 p)) J9 ([.ptr 0 0, .p (.i .i64 256)], ws) 0 new).run s = some ⟨.p (.i .i64 r22.1), ws ++ [(0, .box (List.map AV.p (J0 r22.2)))]⟩ := Jw (args' := [.ptr 0 0, .p (.i .i64 256)]) (bs := [0]) (css := [List.map AV.p (J0 r9.2)]) (css' := [List.map AV.p (J0 r22.2)]) rfl rfl rfl (by simp [Ji, J6]) (Ju p h23) rfl rfl (by simp [Ji, J6])
        try simp only [Nf] at f24
        have f25 : ∀ env sto new, (cvR .toStr (.p (.sl 1 (List.map (r_i .u8) ([(IntKind.wrap .u8 r22.1)] : List Int)))) new).run ⟨env, sto⟩ = some ⟨.p (.s (toStr ([(IntKind.wrap .u8 r22.1)] : List Int))), []⟩ := fun env sto new => Jle env sto _ new
        try simp only [Nf] at f25
        obtain ⟨s26, h27, h⟩ := bi h
        obtain rfl := sj h
        try simp only [↓Da, Ua, J1f, Jd, J6F, *, ↓reduceIte, Nat.reduceEqDiff, Nat.reduceAdd, Nat.reduceLT, Nat.reduceMul]
        rfl
      · have h21n : ((r9.1 : Int) != 1) = true := by rw [bne, h21]; rfl
        obtain ⟨m28, h29, h⟩ := bi h
        have f30 : J61 (.p (.s x1)) none (some (.p (.i .i64 r6.1))) = some (.p (.s m28)) := J9t (k := .i64) (lo := none) (hi := (some r6.1)) h29
        try simp only [Nf] at f30
        obtain ⟨c31, h32, h⟩ := bi h
        obtain ⟨r33, h34, h⟩ := bi h
        have f35 : ∀ ws new s, JB ws s [0] [List.map AV.p (J0 r9.2)] → (Jo (AF (J2 p)) J9 ([.ptr 0 0, .p (.i .i64 255)], ws) 0 new).run s = some ⟨.p (.i .i64 r33.1), ws ++ [(0, .box (List.map AV.p (J0 r33.2)))]⟩ := Jw (args' := [.ptr 0 0, .p (.i .i64 255)]) (bs := [0]) (css := [List.map AV.p (J0 r9.2)]) (css' := [List.map AV.p (J0 r33.2)]) rfl rfl rfl (by simp [Ji, J6]) (Ju p h34) rfl rfl (by simp [Ji, J6])
        try simp only [Nf] at f35
        have f36 : ∀ env sto new, (cvR .toStr (.p (.sl 1 (List.map (r_i .u8) ([(JnO .u8 c31 (IntKind.wrap .u8 (IntKind.wrap .i64 (1 + r33.1))))] : List Int)))) new).run ⟨env, sto⟩ = some ⟨.p (.s (toStr ([(JnO .u8 c31 (IntKind.wrap .u8 (IntKind.wrap .i64 (1 + r33.1))))] : List Int))), []⟩ := fun env sto new => Jle env sto _ new
        try simp only [Nf] at f36
        obtain ⟨s37, h38, h⟩ := bi h
        obtain ⟨m39, h40, h⟩ := bi h
        have f41 : J61 (.p (.s x1)) (some (.p (.i .i64 (IntKind.wrap .i64 (r6.1 + 1))))) none = some (.p (.s m39)) := J9t (k := .i64) (lo := (some (IntKind.wrap .i64 (r6.1 + 1)))) (hi := none) h40
        try simp only [Nf] at f41
        obtain ⟨s42, h43, h⟩ := bi h
        obtain rfl := sj h
        try simp only [↓Da, Ua, J1f, Jd, J6F, *, ↓reduceIte, Nat.reduceEqDiff, Nat.reduceAdd, Nat.reduceLT, Nat.reduceMul]
        rfl
theorem JeS {b0 : T_pagemenddraw_Codes} {x1 : List UInt8} {o : (List UInt8) × T_pagemenddraw_Codes} (h : J3P b0 x1 = some o) : AF (J2 p) J3S [.ptr 0 0, .p (.s x1)] [.box (List.map AV.p (J0 b0))] = Ja9 o :=
  (J0s (J2 p) (JeX p) rfl).trans (Jc5 p h)
def Jcv  (r : T_api_Index × Int) : Option Res := some (.tup [.data (J5 r.1), .p (.i .i64 r.2)], [])
def J1O (x0 : Int) : Option (T_api_Index × Int) :=
  if (decide (x0 < 1)) then
    some ((⟨([] : List T_api_Row)⟩ : T_api_Index), 1)
  else
    if (decide (x0 > 64)) then
      some ((⟨([] : List T_api_Row)⟩ : T_api_Index), 1)
    else
      Option.bind (mkS 24 x0 x0 (⟨0, 0, 0⟩ : T_api_Row)) fun m3 =>
      some ((⟨m3⟩ : T_api_Index), 0)
theorem JeW {x0 : Int} {o : T_api_Index × Int} (h : J1O x0 = some o) :
    rk (J2 p) J5F 0 [] (X (J2 p) J3N ⟨[(0, .p (.i .i64 x0))], []⟩) = Jcv o := by
  unfold J1O at h
  rcases Jb h with ⟨h1, h⟩ | ⟨h1, h⟩
  · obtain rfl := sj h
    try simp only [↓Da, Ua, J3N, J1, Je, Ja6, *, ↓reduceIte, Nat.reduceEqDiff, Nat.reduceAdd, Nat.reduceLT, Nat.reduceMul]
    rfl
  · try simp only [↓Da, Ua, J3N, J1, Je, *, ↓reduceIte, Nat.reduceEqDiff, Nat.reduceAdd, Nat.reduceLT, Nat.reduceMul]
    rcases Jb h with ⟨h2, h⟩ | ⟨h2, h⟩
    · obtain rfl := sj h
      try simp only [↓Da, Ua, J3N, J1, Je, Ja6, *, ↓reduceIte, Nat.reduceEqDiff, Nat.reduceAdd, Nat.reduceLT, Nat.reduceMul]
      rfl
    · obtain ⟨m3, h4, h⟩ := bi h
      have f5 : (0 ≤ (x0 : Int) ∧ (x0 : Int) ≤ x0 ∧ ((24 : Nat) : Int) * x0 ≤ 281474976710656 ∧ (x0 : Int) ≤ 281474976710656) = True := eq_true (J8P h4).1
      have f6 : List.replicate (Int.toNat x0) (J7 (⟨0, 0, 0⟩ : T_api_Row)) = List.map J7 m3 := by rw [(J8P h4).2, List.map_replicate]
      try simp only [Nf, J1] at f6
      obtain rfl := sj h
      try simp only [↓Da, Ua, J3N, J1, Je, Ja6, *, ↓reduceIte, Nat.reduceEqDiff, Nat.reduceAdd, Nat.reduceLT, Nat.reduceMul]
      rfl
theorem JiN {x0 : Int} {o : T_api_Index × Int} (h : J1O x0 = some o) : AF (J2 p) J4G [.p (.i .i64 x0)] [] = Jcv o :=
  (J0s (J2 p) (JiG p) rfl).trans (JeW p h)
theorem JcD {x0 : Int} {o : T_api_Index × Int} (h : J1O x0 = some o) : ∀ ws new st, (Jo (AF (J2 p)) J4G ([.p (.i .i64 x0)], ws) 0 new).run st = some ⟨.tup [.data (J5 o.1), .p (.i .i64 o.2)], ws⟩ := JN rfl (JiN p h) rfl
def JcL (r : T_api_Index × Int) : Option Res := if ((r.2 : Int) == 0) = true then some (.tup [.agg [.slr 0 0 (List.length r.1.Rows)], .p (.i .i64 r.2)], [.arr true 3 (List.map J7 r.1.Rows)]) else some (.tup [.data (J5 r.1), .p (.i .i64 r.2)], [])
def J3Z (x0 : Int) : Option (T_api_Index × Int) :=
  if (decide (x0 < 1)) then
    some ((⟨([] : List T_api_Row)⟩ : T_api_Index), 1)
  else
    if (decide (x0 > 64)) then
      some ((⟨([] : List T_api_Row)⟩ : T_api_Index), 1)
    else
      Option.bind (mkS 24 x0 x0 (⟨0, 0, 0⟩ : T_api_Row)) fun m3 =>
      some ((⟨m3⟩ : T_api_Index), 0)
theorem JiR {x0 : Int} {o : T_api_Index × Int} (h : J3Z x0 = some o) :
    rk (J2 p) J8c 0 [] (X (J2 p) J69 ⟨[(0, .p (.i .i64 x0))], []⟩) = JcL o := by
  unfold J3Z at h
  rcases Jb h with ⟨h1, h⟩ | ⟨h1, h⟩
  · obtain rfl := sj h
    try simp only [↓Da, Ua, J69, J1, Jl, JcU, *, ↓reduceIte, Nat.reduceEqDiff, Nat.reduceAdd, Nat.reduceLT, Nat.reduceMul, Nat.reduceBEq]
    rfl
  · try simp only [↓Da, Ua, J69, J1, Jl, *, ↓reduceIte, Nat.reduceEqDiff, Nat.reduceAdd, Nat.reduceLT, Nat.reduceMul, Nat.reduceBEq]
    rcases Jb h with ⟨h2, h⟩ | ⟨h2, h⟩
    · obtain rfl := sj h
      try simp only [↓Da, Ua, J69, J1, Jl, JcU, *, ↓reduceIte, Nat.reduceEqDiff, Nat.reduceAdd, Nat.reduceLT, Nat.reduceMul, Nat.reduceBEq]
      rfl
    · obtain ⟨m3, h4, h⟩ := bi h
      have f5 : (0 ≤ (x0 : Int) ∧ (x0 : Int) ≤ x0 ∧ ((24 : Nat) : Int) * x0 ≤ 281474976710656 ∧ (x0 : Int) ≤ 281474976710656) = True := eq_true (J8P h4).1
      have f6 : List.replicate (Int.toNat x0) (J7 (⟨0, 0, 0⟩ : T_api_Row)) = List.map J7 m3 := by rw [(J8P h4).2, List.map_replicate]
      try simp only [Nf, J1, Jl] at f6
      have g7 : List.length m3 = Int.toNat x0 := by rw [(J8P h4).2, List.length_replicate]
      obtain rfl := sj h
      try simp only [↓Da, Ua, J69, J1, Jl, JcU, *, ↓reduceIte, Nat.reduceEqDiff, Nat.reduceAdd, Nat.reduceLT, Nat.reduceMul, Nat.reduceBEq]
      first | rfl | (simp only [JcL, g7]; try rfl)
theorem Jh6 {x0 : Int} {o : T_api_Index × Int} (h : J3Z x0 = some o) : AF (J2 p) J6c [.p (.i .i64 x0)] [] = JcL o :=
  (J0s (J2 p) (Jmk p) rfl).trans (JiR p h)
theorem JeC {x0 : Int} {o : T_api_Index × Int} (h : J3Z x0 = some o) (hc : ((o.2 : Int) == 0) = true) : ∀ ws new st, (J3y (AF (J2 p)) J6c ([.p (.i .i64 x0)], ws) 1 new).run st = some ⟨.tup [.agg [.slr new 0 (List.length o.1.Rows)], .p (.i .i64 o.2)], ws ++ [(new, .arr true 3 (List.map J7 o.1.Rows))]⟩ :=
  fun ws new st => Jiy rfl ((Jh6 p h).trans (if_pos hc)) (fun _ => rfl) (fun _ => rfl) (by simp) ws new st
theorem Jks {x0 : Int} {o : T_api_Index × Int} (h : J3Z x0 = some o) (hc : ((o.2 : Int) == 0) = false) : ∀ ws new st, (J3y (AF (J2 p)) J6c ([.p (.i .i64 x0)], ws) 1 new).run st = some ⟨.tup [.data (J5 o.1), .p (.i .i64 o.2)], ws ++ []⟩ :=
  fun ws new st => Jiy rfl ((Jh6 p h).trans (if_neg (by rw [hc]; decide))) (fun _ => rfl) (fun _ => rfl) (by simp) ws new st
def JbN  (r : Int × T_pagemenddraw_Codes) : Option Res := some (.p (.i .i64 r.1), [.box (List.map AV.p (J0 r.2))])
def J2s (b0 : T_pagemenddraw_Codes) : Option (Int × T_pagemenddraw_Codes) :=
  Option.bind (Js b0 10) fun r1 =>
  if ((r1.1 : Int) == 0) then
    Option.bind (Js r1.2 3) fun r5 =>
    some ((IntKind.wrap .i64 ((-1) - r5.1)), r5.2)
  else
    if ((r1.1 : Int) == 1) then
      Option.bind (Js r1.2 16) fun r9 =>
      Option.bind (idx ([9223372036854775807, (-9223372036854775808), 1099511627776, 1099511627777, 1073741824, 1073741825, 64, 63, 16, 15, 256, 255, 4294967296, 65536, 256, 255] : List Int) r9.1) fun y12 =>
      some (y12, r9.2)
    else
      Option.bind (Js r1.2 20) fun r15 =>
      some (r15.1, r15.2)
theorem JdY {b0 : T_pagemenddraw_Codes} {o : Int × T_pagemenddraw_Codes} (h : J2s b0 = some o) :
    rk (J2 p) J5e 1 [] (X (J2 p) J2u ⟨[(0, .ptr 0 0)], [.box (List.map AV.p (J0 b0))]⟩) = JbN o := by
  unfold J2s at h
  obtain ⟨r1, h2, h⟩ := bi h
  have f3 : ∀ ws new s, JB ws s [0] [List.map AV.p (J0 b0)] → (Jo (AF (J2 p)) J9 ([.ptr 0 0, .p (.i .i64 10)], ws) 0 new).run s = some ⟨.p (.i .i64 r1.1), ws ++ [(0, .box (List.map AV.p (J0 r1.2)))]⟩ := Jw (args' := [.ptr 0 0, .p (.i .i64 10)]) (bs := [0]) (css := [List.map AV.p (J0 b0)]) (css' := [List.map AV.p (J0 r1.2)]) rfl rfl rfl (by simp [Ji, J6]) (Ju p h2) rfl rfl (by simp [Ji, J6])
  try simp only [Nf] at f3
  try simp only [↓Da, Ua, J2u, Jd, *, ↓reduceIte, Nat.reduceEqDiff, Nat.reduceAdd, Nat.reduceLT, Nat.reduceMul]
  rcases Jb h with ⟨h4, h⟩ | ⟨h4, h⟩
  · have h4n : ((r1.1 : Int) != 0) = false := by rw [bne, h4]; rfl
    obtain ⟨r5, h6, h⟩ := bi h
    have f7 : ∀ ws new s, JB ws s [0] [List.map AV.p (J0 r1.2)] → (Jo (AF (J2 p)) J9 ([.ptr 0 0, .p (.i .i64 3)], ws) 0 new).run s = some ⟨.p (.i .i64 r5.1), ws ++ [(0, .box (List.map AV.p (J0 r5.2)))]⟩ := Jw (args' := [.ptr 0 0, .p (.i .i64 3)]) (bs := [0]) (css := [List.map AV.p (J0 r1.2)]) (css' := [List.map AV.p (J0 r5.2)]) rfl rfl rfl (by simp [Ji, J6]) (Ju p h6) rfl rfl (by simp [Ji, J6])
    try simp only [Nf] at f7
    obtain rfl := sj h
    try simp only [↓Da, Ua, J2u, Jd, J9s, *, ↓reduceIte, Nat.reduceEqDiff, Nat.reduceAdd, Nat.reduceLT, Nat.reduceMul]
    rfl
  · have h4n : ((r1.1 : Int) != 0) = true := by rw [bne, h4]; rfl
    try simp only [↓Da, Ua, J2u, Jd, *, ↓reduceIte, Nat.reduceEqDiff, Nat.reduceAdd, Nat.reduceLT, Nat.reduceMul]
    rcases Jb h with ⟨h8, h⟩ | ⟨h8, h⟩
    · have h8n : ((r1.1 : Int) != 1) = false := by rw [bne, h8]; rfl
      obtain ⟨r9, h10, h⟩ := bi h
      have f11 : ∀ ws new s, JB ws s [0] [List.map AV.p (J0 r1.2)] → (Jo (AF (J2 p)) J9 ([.ptr 0 0, .p (.i .i64 16)], ws) 0 new).run s = some ⟨.p (.i .i64 r9.1), ws ++ [(0, .box (List.map AV.p (J0 r9.2)))]⟩ := Jw (args' := [.ptr 0 0, .p (.i .i64 16)]) (bs := [0]) (css := [List.map AV.p (J0 r1.2)]) (css' := [List.map AV.p (J0 r9.2)]) rfl rfl rfl (by simp [Ji, J6]) (Ju p h10) rfl rfl (by simp [Ji, J6])
      try simp only [Nf] at f11
      obtain ⟨y12, h13, h⟩ := bi h
      have f14 := J2R (r := (r_i .i64)) h13
      try simp only [Nf] at f14
      obtain rfl := sj h
      try simp only [↓Da, Ua, J2u, Jd, J9s, *, ↓reduceIte, Nat.reduceEqDiff, Nat.reduceAdd, Nat.reduceLT, Nat.reduceMul]
      rfl
    · have h8n : ((r1.1 : Int) != 1) = true := by rw [bne, h8]; rfl
      obtain ⟨r15, h16, h⟩ := bi h
      have f17 : ∀ ws new s, JB ws s [0] [List.map AV.p (J0 r1.2)] → (Jo (AF (J2 p)) J9 ([.ptr 0 0, .p (.i .i64 20)], ws) 0 new).run s = some ⟨.p (.i .i64 r15.1), ws ++ [(0, .box (List.map AV.p (J0 r15.2)))]⟩ := Jw (args' := [.ptr 0 0, .p (.i .i64 20)]) (bs := [0]) (css := [List.map AV.p (J0 r1.2)]) (css' := [List.map AV.p (J0 r15.2)]) rfl rfl rfl (by simp [Ji, J6]) (Ju p h16) rfl rfl (by simp [Ji, J6])
      try simp only [Nf] at f17
      obtain rfl := sj h
      try simp only [↓Da, Ua, J2u, Jd, J9s, *, ↓reduceIte, Nat.reduceEqDiff, Nat.reduceAdd, Nat.reduceLT, Nat.reduceMul]
      rfl
theorem J9q {b0 : T_pagemenddraw_Codes} {o : Int × T_pagemenddraw_Codes} (h : J2s b0 = some o) : AF (J2 p) J1S [.ptr 0 0] [.box (List.map AV.p (J0 b0))] = JbN o :=
  (J0s (J2 p) (Jht p) rfl).trans (JdY p h)
def J3G  (r : (List UInt8) × T_pagemenddraw_Codes) : Option Res := some (.p (.s r.1), [.box (List.map AV.p (J0 r.2))])
def JeT (x3 : Int) (w1 : Bool) (o : (Int × T_pagemenddraw_Codes × (List Int)) ⊕ ((List UInt8) × T_pagemenddraw_Codes)) : Option Res := match o with
  | .inl s => rk (J2 p) J0Z 1 [.bl 0, .sq (.keep [4] J2X)] (X (J2 p) (.lp 2 [0, 3, 4, 5] J1X) ⟨[(0, .ptr 0 0), (3, .p (.i .i64 x3)), (4, .slr 1 0 (List.length s.2.2)), (5, .p (.i .i64 s.1))], [.box (List.map AV.p (J0 s.2.1)), .arr w1 1 (List.map (r_i .u8) s.2.2)]⟩)
  | .inr o => J3G o
def J6G (b0 : T_pagemenddraw_Codes) (l1 : List Int) : Option ((List UInt8) × T_pagemenddraw_Codes) :=
  some ((toStr l1), b0)
theorem JeQ {b0 : T_pagemenddraw_Codes} {l1 : List Int} {w1 : Bool} {o : (List UInt8) × T_pagemenddraw_Codes} (h : J6G b0 l1 = some o) :
    rk (J2 p) J0Z 1 [] (X (J2 p) J2X ⟨[(4, .slr 1 0 (List.length l1))], [.box (List.map AV.p (J0 b0)), .arr w1 1 (List.map (r_i .u8) l1)]⟩) = J3G o := by
  unfold J6G at h
  obtain rfl := sj h
  try simp only [↓Da, Ua, J2X, Jgv, ↓reduceIte, Nat.reduceEqDiff, Nat.reduceAdd, Nat.reduceLT, Nat.reduceMul]
  rfl
def J2W (x3 : Int) (x5 : Int) (b0 : T_pagemenddraw_Codes) (l1 : List Int) : Option (((Int × T_pagemenddraw_Codes × (List Int)) ⊕ ((List UInt8) × T_pagemenddraw_Codes))) :=
  if (decide (x5 < x3)) then
    Option.bind (Js b0 3) fun r2 =>
    Option.bind (JcE 1 l1 ([(IntKind.wrap .u8 (IntKind.wrap .i64 (97 + r2.1)))] : List Int)) fun m5 =>
    some (.inl ((IntKind.wrap .i64 (x5 + 1)), r2.2, m5))
  else
    Option.map (fun o => .inr o) (J6G b0 l1)
theorem Ja7 {x3 : Int} {x5 : Int} {b0 : T_pagemenddraw_Codes} {l1 : List Int} {w1 : Bool} {o : ((Int × T_pagemenddraw_Codes × (List Int)) ⊕ ((List UInt8) × T_pagemenddraw_Codes))} (h : J2W x3 x5 b0 l1 = some o) :
    rk (J2 p) J0Z 1 [.lo 2 [0, 3, 4, 5] J1X, .bl 0, .sq (.keep [4] J2X)] (X (J2 p) J1X ⟨[(0, .ptr 0 0), (3, .p (.i .i64 x3)), (4, .slr 1 0 (List.length l1)), (5, .p (.i .i64 x5))], [.box (List.map AV.p (J0 b0)), .arr w1 1 (List.map (r_i .u8) l1)]⟩) = (JeT p x3 w1) o := by
  unfold J2W at h
  rcases Jb h with ⟨h1, h⟩ | ⟨h1, h⟩
  · obtain ⟨r2, h3, h⟩ := bi h
    have f4 : ∀ ws new s, JB ws s [0] [List.map AV.p (J0 b0)] → (Jo (AF (J2 p)) J9 ([.ptr 0 0, .p (.i .i64 3)], ws) 0 new).run s = some ⟨.p (.i .i64 r2.1), ws ++ [(0, .box (List.map AV.p (J0 r2.2)))]⟩ := Jw (args' := [.ptr 0 0, .p (.i .i64 3)]) (bs := [0]) (css := [List.map AV.p (J0 b0)]) (css' := [List.map AV.p (J0 r2.2)]) rfl rfl rfl (by simp [Ji, J6]) (Ju p h3) rfl rfl (by simp [Ji, J6])
    try simp only [Nf] at f4
    obtain ⟨m5, h6, h⟩ := bi h
    have f7 : ∀ s : St, s.sto[1]? = some (.arr w1 1 (List.map (r_i .u8) l1)) → (J0n 1 (.p (.sl 1 (List.map (r_i .u8) ([(IntKind.wrap .u8 (IntKind.wrap .i64 (97 + r2.1)))] : List Int))))).run s = some (List.map (r_i .u8) ([(IntKind.wrap .u8 (IntKind.wrap .i64 (97 + r2.1)))] : List Int)) → (J7j 1 1 (.slr 1 0 (List.length l1)) (.p (.sl 1 (List.map (r_i .u8) ([(IntKind.wrap .u8 (IntKind.wrap .i64 (97 + r2.1)))] : List Int))))).run s = some ⟨.slr 1 0 (List.length m5), [(1, .arr w1 1 (List.map (r_i .u8) m5))]⟩ := by
      intro s e1 e2; have e3 := Jg7 h6 e1 e2; try simp only [List.length_cons, List.length_nil, Nat.zero_add] at e3
      exact e3
    try simp only [Nf] at f7
    obtain rfl := sj h
    try simp only [↓Da, Ua, J1X, Jd, *, ↓reduceIte, Nat.reduceEqDiff, Nat.reduceAdd, Nat.reduceLT, Nat.reduceMul]
    rfl
  · obtain ⟨o', h', rfl⟩ := mi h
    try simp only [↓Da, Ua, J1X, Jd, *, ↓reduceIte, Nat.reduceEqDiff, Nat.reduceAdd, Nat.reduceLT, Nat.reduceMul]
    have e0 := JeQ p (w1 := w1) h'
    exact e0
def Ja8 (x3 : Int) (s : Int × T_pagemenddraw_Codes × (List Int)) : Option ((List UInt8) × T_pagemenddraw_Codes) :=
  J00 (fun s => J2W x3 s.1 s.2.1 s.2.2) s
theorem Jd7 {x3 : Int} {w1 : Bool} {s : Int × T_pagemenddraw_Codes × (List Int)} {o : (List UInt8) × T_pagemenddraw_Codes} (h : Ja8 x3 s = some o) :
    rk (J2 p) J0Z 1 [.bl 0, .sq (.keep [4] J2X)] (X (J2 p) (.lp 2 [0, 3, 4, 5] J1X) ⟨[(0, .ptr 0 0), (3, .p (.i .i64 x3)), (4, .slr 1 0 (List.length s.2.2)), (5, .p (.i .i64 s.1))], [.box (List.map AV.p (J0 s.2.1)), .arr w1 1 (List.map (r_i .u8) s.2.2)]⟩) = J3G o := by
  have h0 : J00 (fun s => J2W x3 s.1 s.2.1 s.2.2) s = some o := h
  exact J2k (P := fun (s : Int × T_pagemenddraw_Codes × (List Int)) (o : (List UInt8) × T_pagemenddraw_Codes) => rk (J2 p) J0Z 1 [.bl 0, .sq (.keep [4] J2X)] (X (J2 p) (.lp 2 [0, 3, 4, 5] J1X) ⟨[(0, .ptr 0 0), (3, .p (.i .i64 x3)), (4, .slr 1 0 (List.length s.2.2)), (5, .p (.i .i64 s.1))], [.box (List.map AV.p (J0 s.2.1)), .arr w1 1 (List.map (r_i .u8) s.2.2)]⟩) = J3G o) (fun s r hs => by rw [J2e]; exact Ja7 p hs) (fun s s1 r hs ih => by rw [J2e]; exact (Ja7 p hs).trans ih) h0
def J3T (x3 : Int) (b0 : T_pagemenddraw_Codes) : Option ((List UInt8) × T_pagemenddraw_Codes) :=
  Option.bind (mkS 1 0 x3 0) fun m1 =>
  Ja8 x3 (0, b0, m1)
theorem Jaa {x3 : Int} {b0 : T_pagemenddraw_Codes} {o : (List UInt8) × T_pagemenddraw_Codes} (h : J3T x3 b0 = some o) :
    rk (J2 p) J0Z 1 [] (X (J2 p) J8k ⟨[(0, .ptr 0 0), (3, .p (.i .i64 x3))], [.box (List.map AV.p (J0 b0))]⟩) = J3G o := by
  unfold J3T at h
  obtain ⟨m1, h2, h⟩ := bi h
  have f3 : (0 ≤ (0 : Int) ∧ (0 : Int) ≤ x3 ∧ ((1 : Nat) : Int) * x3 ≤ 281474976710656 ∧ (x3 : Int) ≤ 281474976710656) = True := eq_true (J8P h2).1
  have f4 : List.replicate (Int.toNat 0) ((r_i .u8) 0) = List.map (r_i .u8) m1 := by rw [(J8P h2).2, List.map_replicate]
  try simp only [Nf] at f4
  have g5 : List.length m1 = Int.toNat 0 := by rw [(J8P h2).2, List.length_replicate]
  try simp only [↓Da, Ua, J8k, *, ↓reduceIte, Nat.reduceEqDiff, Nat.reduceAdd, Nat.reduceLT, Nat.reduceMul]
  have e0 := Jd7 p (w1 := true) h
  try simp only [g5] at e0
  exact e0
def J1Y (b0 : T_pagemenddraw_Codes) : Option ((List UInt8) × T_pagemenddraw_Codes) :=
  Option.bind (Js b0 5) fun r1 =>
  Option.bind (Js r1.2 6) fun r4 =>
  if ((r4.1 : Int) == 0) then
    Option.bind (Js r4.2 14) fun r8 =>
    J3T r8.1 r8.2
  else
    J3T r1.1 r4.2
theorem Jds {b0 : T_pagemenddraw_Codes} {o : (List UInt8) × T_pagemenddraw_Codes} (h : J1Y b0 = some o) :
    rk (J2 p) J0Z 1 [] (X (J2 p) J3C ⟨[(0, .ptr 0 0)], [.box (List.map AV.p (J0 b0))]⟩) = J3G o := by
  unfold J1Y at h
  obtain ⟨r1, h2, h⟩ := bi h
  have f3 : ∀ ws new s, JB ws s [0] [List.map AV.p (J0 b0)] → (Jo (AF (J2 p)) J9 ([.ptr 0 0, .p (.i .i64 5)], ws) 0 new).run s = some ⟨.p (.i .i64 r1.1), ws ++ [(0, .box (List.map AV.p (J0 r1.2)))]⟩ := Jw (args' := [.ptr 0 0, .p (.i .i64 5)]) (bs := [0]) (css := [List.map AV.p (J0 b0)]) (css' := [List.map AV.p (J0 r1.2)]) rfl rfl rfl (by simp [Ji, J6]) (Ju p h2) rfl rfl (by simp [Ji, J6])
  try simp only [Nf] at f3
  obtain ⟨r4, h5, h⟩ := bi h
  have f6 : ∀ ws new s, JB ws s [0] [List.map AV.p (J0 r1.2)] → (Jo (AF (J2 p)) J9 ([.ptr 0 0, .p (.i .i64 6)], ws) 0 new).run s = some ⟨.p (.i .i64 r4.1), ws ++ [(0, .box (List.map AV.p (J0 r4.2)))]⟩ := Jw (args' := [.ptr 0 0, .p (.i .i64 6)]) (bs := [0]) (css := [List.map AV.p (J0 r1.2)]) (css' := [List.map AV.p (J0 r4.2)]) rfl rfl rfl (by simp [Ji, J6]) (Ju p h5) rfl rfl (by simp [Ji, J6])
  try simp only [Nf] at f6
  try simp only [↓Da, Ua, J3C, Jd, *, ↓reduceIte, Nat.reduceEqDiff, Nat.reduceAdd, Nat.reduceLT, Nat.reduceMul]
  rcases Jb h with ⟨h7, h⟩ | ⟨h7, h⟩
  · have h7n : ((r4.1 : Int) != 0) = false := by rw [bne, h7]; rfl
    obtain ⟨r8, h9, h⟩ := bi h
    have f10 : ∀ ws new s, JB ws s [0] [List.map AV.p (J0 r4.2)] → (Jo (AF (J2 p)) J9 ([.ptr 0 0, .p (.i .i64 14)], ws) 0 new).run s = some ⟨.p (.i .i64 r8.1), ws ++ [(0, .box (List.map AV.p (J0 r8.2)))]⟩ := Jw (args' := [.ptr 0 0, .p (.i .i64 14)]) (bs := [0]) (css := [List.map AV.p (J0 r4.2)]) (css' := [List.map AV.p (J0 r8.2)]) rfl rfl rfl (by simp [Ji, J6]) (Ju p h9) rfl rfl (by simp [Ji, J6])
    try simp only [Nf] at f10
    try simp only [↓Da, Ua, J3C, Jd, *, ↓reduceIte, Nat.reduceEqDiff, Nat.reduceAdd, Nat.reduceLT, Nat.reduceMul]
    have e0 := Jaa p h
    exact e0
  · have h7n : ((r4.1 : Int) != 0) = true := by rw [bne, h7]; rfl
    try simp only [↓Da, Ua, J3C, Jd, *, ↓reduceIte, Nat.reduceEqDiff, Nat.reduceAdd, Nat.reduceLT, Nat.reduceMul]
    have e0 := Jaa p h
    exact e0
theorem JaX {b0 : T_pagemenddraw_Codes} {o : (List UInt8) × T_pagemenddraw_Codes} (h : J1Y b0 = some o) : AF (J2 p) J2V [.ptr 0 0] [.box (List.map AV.p (J0 b0))] = J3G o :=
  (J0s (J2 p) (Jgw p) rfl).trans (Jds p h)
def Jb1  (r : Bool) : Option Res := some (.p (.b r), [])
def J1h (x0 : T_api_Index) (x1 : Int) : Option (Bool) :=
  if (decide (x1 ≥ 0)) then
    some (decide (x1 < ((List.length x0.Rows : Nat) : Int)))
  else
    some false
theorem Jdu {x0 : T_api_Index} {x1 : Int} {o : Bool} (h : J1h x0 x1 = some o) :
    rk (J2 p) J4K 0 [] (X (J2 p) J4V ⟨[(0, .data (J5 x0)), (1, .p (.i .i64 x1))], []⟩) = Jb1 o := by
  unfold J1h at h
  rcases Jb h with ⟨h1, h⟩ | ⟨h1, h⟩
  · obtain rfl := sj h
    try simp only [↓Da, Ua, J4V, J1, Je, JaW, *, ↓reduceIte, Nat.reduceEqDiff, Nat.reduceAdd, Nat.reduceLT, Nat.reduceMul]
    rfl
  · obtain rfl := sj h
    try simp only [↓Da, Ua, J4V, J1, Je, JaW, *, ↓reduceIte, Nat.reduceEqDiff, Nat.reduceAdd, Nat.reduceLT, Nat.reduceMul]
    rfl
theorem JgJ {x0 : T_api_Index} {x1 : Int} {o : Bool} (h : J1h x0 x1 = some o) : AF (J2 p) J3D [.data (J5 x0), .p (.i .i64 x1)] [] = Jb1 o :=
  (J0s (J2 p) (Jgz p) rfl).trans (Jdu p h)
theorem JaT {x0 : T_api_Index} {x1 : Int} {o : Bool} (h : J1h x0 x1 = some o) : ∀ ws new st, (Jo (AF (J2 p)) J3D ([.data (J5 x0), .p (.i .i64 x1)], ws) 0 new).run st = some ⟨.p (.b o), ws⟩ := JN rfl (JgJ p h) rfl
def Jh5  (r : T_api_Index) : Option Res := some (.data (J5 r), [])
def J5p (x0 : T_api_Index) (x1 : Int) (x2 : T_api_Row) : Option (T_api_Index) :=
  Option.bind (Jjz 24 x0.Rows) fun u2 =>
  Option.bind (idx x0.Rows x1) fun y4 =>
  Option.bind (some (List.set x0.Rows (Int.toNat x1) x2)) fun m8 =>
  some (⟨m8⟩ : T_api_Index)
theorem JiK {x0 : T_api_Index} {x1 : Int} {x2 : T_api_Row} {o : T_api_Index} (h : J5p x0 x1 x2 = some o) :
    rk (J2 p) J8b 0 [] (X (J2 p) J9f ⟨[(0, .data (J5 x0)), (1, .p (.i .i64 x1)), (2, .data (J7 x2))], []⟩) = Jh5 o := by
  unfold J5p at h
  obtain ⟨u2, h3, h⟩ := bi h
  have f1 := (Jlk h3).1
  try simp only [Nf, J1, Jl] at f1
  obtain ⟨y4, h5, h⟩ := bi h
  have f6 := J7S (r := J7) h5
  try simp only [Nf, J1, Jl] at f6
  have f7 : (0 ≤ (x1 : Int) ∧ (x1 : Int) < (((List.length x0.Rows) : Nat) : Int)) = True := eq_true (by have e0 := Jai h5; (try simp only [List.length_cons, List.length_nil, Nat.zero_add] at e0); omega)
  obtain ⟨m8, h9, h⟩ := bi h
  have f10 : List.set (List.map J7 x0.Rows) (Int.toNat x1) (J7 x2) = List.map J7 m8 := by
    rw [← Option.some.inj h9, List.map_set]
  try simp only [Nf, J1, Jl] at f10
  have g11 : List.length m8 = List.length x0.Rows := by rw [← Option.some.inj h9, List.length_set]
  obtain rfl := sj h
  try simp only [↓Da, Ua, J9f, J1, Jl, Jmt, *, ↓reduceIte, Nat.reduceEqDiff, Nat.reduceAdd, Nat.reduceLT, Nat.reduceMul]
  rfl
theorem Jmx {x0 : T_api_Index} {x1 : Int} {x2 : T_api_Row} {o : T_api_Index} (h : J5p x0 x1 x2 = some o) : AF (J2 p) J7n [.data (J5 x0), .p (.i .i64 x1), .data (J7 x2)] [] = Jh5 o :=
  (J0s (J2 p) (JmO p) rfl).trans (JiK p h)
theorem JcY {x0 : T_api_Index} {x1 : Int} {x2 : T_api_Row} {o : T_api_Index} (h : J5p x0 x1 x2 = some o) : ∀ ws new st, (Jo (AF (J2 p)) J7n ([.data (J5 x0), .p (.i .i64 x1), .data (J7 x2)], ws) 0 new).run st = some ⟨.data (J5 o), ws⟩ := JN rfl (Jmx p h) rfl
def J9W  (r : Bool) : Option Res := some (.p (.b r), [])
def J0t (x0 : Int) : Option (Bool) :=
  if (decide (x0 ≥ 0)) then
    some (decide (x0 ≤ 1099511627776))
  else
    some false
theorem JbZ {x0 : Int} {o : Bool} (h : J0t x0 = some o) :
    rk (J2 p) J3x 0 [] (X (J2 p) J3v ⟨[(0, .p (.i .i64 x0))], []⟩) = J9W o := by
  unfold J0t at h
  rcases Jb h with ⟨h1, h⟩ | ⟨h1, h⟩
  · obtain rfl := sj h
    try simp only [↓Da, Ua, J3v, J9S, *, ↓reduceIte, Nat.reduceEqDiff, Nat.reduceAdd, Nat.reduceLT, Nat.reduceMul]
    rfl
  · obtain rfl := sj h
    try simp only [↓Da, Ua, J3v, J9S, *, ↓reduceIte, Nat.reduceEqDiff, Nat.reduceAdd, Nat.reduceLT, Nat.reduceMul]
    rfl
theorem JdG {x0 : Int} {o : Bool} (h : J0t x0 = some o) : AF (J2 p) J14 [.p (.i .i64 x0)] [] = J9W o :=
  (J0s (J2 p) (JdX p) rfl).trans (JbZ p h)
theorem J4F {x0 : Int} {o : Bool} (h : J0t x0 = some o) : ∀ ws new st, (Jo (AF (J2 p)) J14 ([.p (.i .i64 x0)], ws) 0 new).run st = some ⟨.p (.b o), ws⟩ := JN rfl (JdG p h) rfl
def JgT  (r : Bool) : Option Res := some (.p (.b r), [])
def J4w (x0 : Int) : Option (Bool) :=
  if (decide (x0 ≥ 0)) then
    some (decide (x0 ≤ 1099511627776))
  else
    some false
theorem Jih {x0 : Int} {o : Bool} (h : J4w x0 = some o) :
    rk (J2 p) J89 0 [] (X (J2 p) J8i ⟨[(0, .p (.i .i64 x0))], []⟩) = JgT o := by
  unfold J4w at h
  rcases Jb h with ⟨h1, h⟩ | ⟨h1, h⟩
  · obtain rfl := sj h
    try simp only [↓Da, Ua, J8i, Jh3, *, ↓reduceIte, Nat.reduceEqDiff, Nat.reduceAdd, Nat.reduceLT, Nat.reduceMul]
    rfl
  · obtain rfl := sj h
    try simp only [↓Da, Ua, J8i, Jh3, *, ↓reduceIte, Nat.reduceEqDiff, Nat.reduceAdd, Nat.reduceLT, Nat.reduceMul]
    rfl
theorem JmK {x0 : Int} {o : Bool} (h : J4w x0 = some o) : AF (J2 p) J4x [.p (.i .i64 x0)] [] = JgT o :=
  (J0s (J2 p) (Jmm p) rfl).trans (Jih p h)
theorem J9a {x0 : Int} {o : Bool} (h : J4w x0 = some o) : ∀ ws new st, (Jo (AF (J2 p)) J4x ([.p (.i .i64 x0)], ws) 0 new).run st = some ⟨.p (.b o), ws⟩ := JN rfl (JmK p h) rfl
def JgV (r : List UInt8) : Option Res := some (.p (.s r), [])
def J45 (x0 : List UInt8) (x1 : Int) (x2 : Int) : Option (List UInt8) := Jjm x0 x1 x2
theorem Jms {x0 : List UInt8} {x1 : Int} {x2 : Int} {o : List UInt8} (h : J45 x0 x1 x2 = some o) : AF (J2 p) J47 [.p (.s x0), .p (.i .i64 x1), .p (.i .i64 x2)] [] = JgV o := by
  rw [Jre (Jmi p)]
  have h' : Jjm x0 x1 x2 = some o := h
  simp only [JlJ, h', Option.map_some, JgV]
theorem Jar {x0 : List UInt8} {x1 : Int} {x2 : Int} {o : List UInt8} (h : J45 x0 x1 x2 = some o) : ∀ ws new st, (Jo (AF (J2 p)) J47 ([.p (.s x0), .p (.i .i64 x1), .p (.i .i64 x2)], ws) 0 new).run st = some ⟨.p (.s o), ws⟩ := JN rfl (Jms p h) rfl
def J88  (r : (List UInt8)) : Option Res := some (.p (.s r), [])
def JkA (x1 : Int) (x2 : Int) (o : ((List UInt8) × Int) ⊕ ((List UInt8))) : Option Res := match o with
  | .inl s => rk (J2 p) J40 0 [.bl 0, .sq (.keep [0] J5R)] (X (J2 p) (.lp 0 [0, 1, 2, 7] J4Z) ⟨[(0, .p (.s s.1)), (1, .p (.i .i64 x1)), (2, .p (.i .i64 x2)), (7, .p (.i .i64 s.2))], []⟩)
  | .inr o => J88 o
def J9j (x0 : List UInt8) : Option ((List UInt8)) :=
  some x0
theorem JkP {x0 : List UInt8} {o : (List UInt8)} (h : J9j x0 = some o) :
    rk (J2 p) J40 0 [] (X (J2 p) J5R ⟨[(0, .p (.s x0))], []⟩) = J88 o := by
  unfold J9j at h
  obtain rfl := sj h
  try simp only [↓Da, Ua, J5R, JcM, ↓reduceIte, Nat.reduceEqDiff, Nat.reduceAdd, Nat.reduceLT, Nat.reduceMul]
  rfl
def J5U (x1 : Int) (x2 : Int) (x0 : List UInt8) (x7 : Int) : Option ((((List UInt8) × Int) ⊕ ((List UInt8)))) :=
  if (decide (x7 < x2)) then
    Option.bind (JlL .u64 (IntKind.wrap .u64 x1) (IntKind.wrap .u64 (IntKind.wrap .i64 (8 * x7)))) fun q2 =>
    Option.bind (J9U x0 (toStr ([(IntKind.wrap .u8 q2)] : List Int))) fun s5 =>
    some (.inl (s5, (IntKind.wrap .i64 (x7 + 1))))
  else
    Option.map (fun o => .inr o) (J9j x0)
theorem JeK {x1 : Int} {x2 : Int} {x0 : List UInt8} {x7 : Int} {o : (((List UInt8) × Int) ⊕ ((List UInt8)))} (h : J5U x1 x2 x0 x7 = some o) :
    rk (J2 p) J40 0 [.lo 0 [0, 1, 2, 7] J4Z, .bl 0, .sq (.keep [0] J5R)] (X (J2 p) J4Z ⟨[(0, .p (.s x0)), (1, .p (.i .i64 x1)), (2, .p (.i .i64 x2)), (7, .p (.i .i64 x7))], []⟩) = (JkA p x1 x2) o := by
  unfold J5U at h
  rcases Jb h with ⟨h1, h⟩ | ⟨h1, h⟩
  · obtain ⟨q2, h3, h⟩ := bi h
    have f4 : ∀ env sto new, (cvR .toStr (.p (.sl 1 (List.map (r_i .u8) ([(IntKind.wrap .u8 q2)] : List Int)))) new).run ⟨env, sto⟩ = some ⟨.p (.s (toStr ([(IntKind.wrap .u8 q2)] : List Int))), []⟩ := fun env sto new => Jle env sto _ new
    try simp only [Nf] at f4
    obtain ⟨s5, h6, h⟩ := bi h
    obtain rfl := sj h
    try simp only [↓Da, Ua, J4Z, *, ↓reduceIte, Nat.reduceEqDiff, Nat.reduceAdd, Nat.reduceLT, Nat.reduceMul]
    rfl
  · obtain ⟨o', h', rfl⟩ := mi h
    try simp only [↓Da, Ua, J4Z, *, ↓reduceIte, Nat.reduceEqDiff, Nat.reduceAdd, Nat.reduceLT, Nat.reduceMul]
    have e0 := JkP p h'
    exact e0
def JeF (x1 : Int) (x2 : Int) (s : (List UInt8) × Int) : Option ((List UInt8)) :=
  J00 (fun s => J5U x1 x2 s.1 s.2) s
theorem JiI {x1 : Int} {x2 : Int} {s : (List UInt8) × Int} {o : (List UInt8)} (h : JeF x1 x2 s = some o) :
    rk (J2 p) J40 0 [.bl 0, .sq (.keep [0] J5R)] (X (J2 p) (.lp 0 [0, 1, 2, 7] J4Z) ⟨[(0, .p (.s s.1)), (1, .p (.i .i64 x1)), (2, .p (.i .i64 x2)), (7, .p (.i .i64 s.2))], []⟩) = J88 o := by
  have h0 : J00 (fun s => J5U x1 x2 s.1 s.2) s = some o := h
  exact J2k (P := fun (s : (List UInt8) × Int) (o : (List UInt8)) => rk (J2 p) J40 0 [.bl 0, .sq (.keep [0] J5R)] (X (J2 p) (.lp 0 [0, 1, 2, 7] J4Z) ⟨[(0, .p (.s s.1)), (1, .p (.i .i64 x1)), (2, .p (.i .i64 x2)), (7, .p (.i .i64 s.2))], []⟩) = J88 o) (fun s r hs => by rw [J2e]; exact JeK p hs) (fun s s1 r hs ih => by rw [J2e]; exact (JeK p hs).trans ih) h0
def J2h (x0 : List UInt8) (x1 : Int) (x2 : Int) : Option ((List UInt8)) :=
  if (decide (x2 < 1)) then
    some x0
  else
    if (decide (x2 > 8)) then
      some x0
    else
      JeF x1 x2 (x0, 0)
theorem JiQ {x0 : List UInt8} {x1 : Int} {x2 : Int} {o : (List UInt8)} (h : J2h x0 x1 x2 = some o) :
    rk (J2 p) J40 0 [] (X (J2 p) J6a ⟨[(0, .p (.s x0)), (1, .p (.i .i64 x1)), (2, .p (.i .i64 x2))], []⟩) = J88 o := by
  unfold J2h at h
  rcases Jb h with ⟨h1, h⟩ | ⟨h1, h⟩
  · obtain rfl := sj h
    try simp only [↓Da, Ua, J6a, JcM, *, ↓reduceIte, Nat.reduceEqDiff, Nat.reduceAdd, Nat.reduceLT, Nat.reduceMul]
    rfl
  · try simp only [↓Da, Ua, J6a, *, ↓reduceIte, Nat.reduceEqDiff, Nat.reduceAdd, Nat.reduceLT, Nat.reduceMul]
    rcases Jb h with ⟨h2, h⟩ | ⟨h2, h⟩
    · obtain rfl := sj h
      try simp only [↓Da, Ua, J6a, JcM, *, ↓reduceIte, Nat.reduceEqDiff, Nat.reduceAdd, Nat.reduceLT, Nat.reduceMul]
      rfl
    · try simp only [↓Da, Ua, J6a, *, ↓reduceIte, Nat.reduceEqDiff, Nat.reduceAdd, Nat.reduceLT, Nat.reduceMul]
      have e0 := JiI p h
      exact e0
theorem JmD {x0 : List UInt8} {x1 : Int} {x2 : Int} {o : (List UInt8)} (h : J2h x0 x1 x2 = some o) : AF (J2 p) J5r [.p (.s x0), .p (.i .i64 x1), .p (.i .i64 x2)] [] = J88 o :=
  (J0s (J2 p) (JmS p) rfl).trans (JiQ p h)
theorem Jaw {x0 : List UInt8} {x1 : Int} {x2 : Int} {o : (List UInt8)} (h : J2h x0 x1 x2 = some o) : ∀ ws new st, (Jo (AF (J2 p)) J5r ([.p (.s x0), .p (.i .i64 x1), .p (.i .i64 x2)], ws) 0 new).run st = some ⟨.p (.s o), ws⟩ := JN rfl (JmD p h) rfl
def J9C  (r : Bool) : Option Res := some (.p (.b r), [])
def J1n (x0 : T_api_Row) : Option (Bool) :=
  Option.bind (J0t x0.LSN) fun r1 =>
  if r1 then
    Option.bind (J0t x0.Image) fun r5 =>
    if r5 then
      Option.bind (J0t x0.ImageLSN) fun r9 =>
      if r9 then
        if ((x0.Image : Int) == 0) then
          some ((x0.ImageLSN : Int) != 0)
        else
          some false
      else
        some true
    else
      some true
  else
    some true
theorem JbH {x0 : T_api_Row} {o : Bool} (h : J1n x0 = some o) :
    rk (J2 p) J3m 0 [] (X (J2 p) J0u ⟨[(0, .data (J7 x0))], []⟩) = J9C o := by
  unfold J1n at h
  obtain ⟨r1, h2, h⟩ := bi h
  have f3 := J4F p h2
  try simp only [Nf] at f3
  try simp only [↓Da, Ua, J0u, Je, *, ↓reduceIte, Nat.reduceEqDiff, Nat.reduceAdd, Nat.reduceLT, Nat.reduceMul]
  rcases Jb h with ⟨h4, h⟩ | ⟨h4, h⟩
  · obtain ⟨r5, h6, h⟩ := bi h
    have f7 := J4F p h6
    try simp only [Nf] at f7
    try simp only [↓Da, Ua, J0u, Je, *, ↓reduceIte, Nat.reduceEqDiff, Nat.reduceAdd, Nat.reduceLT, Nat.reduceMul]
    rcases Jb h with ⟨h8, h⟩ | ⟨h8, h⟩
    · obtain ⟨r9, h10, h⟩ := bi h
      have f11 := J4F p h10
      try simp only [Nf] at f11
      try simp only [↓Da, Ua, J0u, Je, *, ↓reduceIte, Nat.reduceEqDiff, Nat.reduceAdd, Nat.reduceLT, Nat.reduceMul]
      rcases Jb h with ⟨h12, h⟩ | ⟨h12, h⟩
      · try simp only [↓Da, Ua, J0u, Je, *, ↓reduceIte, Nat.reduceEqDiff, Nat.reduceAdd, Nat.reduceLT, Nat.reduceMul]
        rcases Jb h with ⟨h13, h⟩ | ⟨h13, h⟩
        · have h13n : ((x0.Image : Int) != 0) = false := by rw [bne, h13]; rfl
          obtain rfl := sj h
          try simp only [↓Da, Ua, J0u, Je, J4z, *, ↓reduceIte, Nat.reduceEqDiff, Nat.reduceAdd, Nat.reduceLT, Nat.reduceMul]
          rfl
        · have h13n : ((x0.Image : Int) != 0) = true := by rw [bne, h13]; rfl
          obtain rfl := sj h
          try simp only [↓Da, Ua, J0u, Je, J4z, *, ↓reduceIte, Nat.reduceEqDiff, Nat.reduceAdd, Nat.reduceLT, Nat.reduceMul]
          rfl
      · obtain rfl := sj h
        try simp only [↓Da, Ua, J0u, Je, J4z, *, ↓reduceIte, Nat.reduceEqDiff, Nat.reduceAdd, Nat.reduceLT, Nat.reduceMul]
        rfl
    · obtain rfl := sj h
      try simp only [↓Da, Ua, J0u, Je, J4z, *, ↓reduceIte, Nat.reduceEqDiff, Nat.reduceAdd, Nat.reduceLT, Nat.reduceMul]
      rfl
  · obtain rfl := sj h
    try simp only [↓Da, Ua, J0u, Je, J4z, *, ↓reduceIte, Nat.reduceEqDiff, Nat.reduceAdd, Nat.reduceLT, Nat.reduceMul]
    rfl
theorem Jel {x0 : T_api_Row} {o : Bool} (h : J1n x0 = some o) : AF (J2 p) JW [.data (J7 x0)] [] = J9C o :=
  (J0s (J2 p) (JdP p) rfl).trans (JbH p h)
theorem Jeg {x0 : T_api_Row} {o : Bool} (h : J1n x0 = some o) : ∀ ws new st, (Jo (AF (J2 p)) JW ([.data (J7 x0)], ws) 0 new).run st = some ⟨.p (.b o), ws⟩ := JN rfl (Jel p h) rfl
end
end Go.Am
end
section
namespace Go.Am
set_option maxRecDepth 8000
set_option maxHeartbeats 4000000
set_option linter.unusedSimpArgs false
set_option linter.unusedVariables false
noncomputable section
variable (p : FuncId → Option (List AV → List Blk → Option Res))
def J8h  (r : Int × Int) : Option Res := some (.tup [.p (.i .i64 r.1), .p (.i .i64 r.2)], [])
def JkS (x0 : List UInt8) (x1 : Int) (x34 : Int) (o : (Int × Int) ⊕ (Int × Int)) : Option Res := match o with
  | .inl s => rk (J2 p) J42 0 [.bl 1, .sq (.keep [8] J5K)] (X (J2 p) (.lp 0 [0, 1, 8, 34, 35] J4W) ⟨[(0, .p (.s x0)), (1, .p (.i .i64 x1)), (8, .p (.i .u64 s.1)), (34, .p (.i .i64 x34)), (35, .p (.i .i64 s.2))], []⟩)
  | .inr o => J8h o
def J6R (x8 : Int) : Option (Int × Int) :=
  some ((IntKind.wrap .i64 x8), 0)
theorem JkU {x8 : Int} {o : Int × Int} (h : J6R x8 = some o) :
    rk (J2 p) J42 0 [] (X (J2 p) J5K ⟨[(8, .p (.i .u64 x8))], []⟩) = J8h o := by
  unfold J6R at h
  obtain rfl := sj h
  try simp only [↓Da, Ua, J5K, J8g, ↓reduceIte, Nat.reduceEqDiff, Nat.reduceAdd, Nat.reduceLT, Nat.reduceMul]
  rfl
def J1u (x0 : List UInt8) (x1 : Int) (x34 : Int) (x8 : Int) (x35 : Int) : Option (((Int × Int) ⊕ (Int × Int))) :=
  if (decide (x35 < x34)) then
    Option.bind (Jfi x0 (IntKind.wrap .i64 (x1 + x35))) fun c2 =>
    Option.bind (Jeo .u64 (IntKind.wrap .u64 c2) (IntKind.wrap .i64 (8 * x35))) fun q4 =>
    some (.inl ((orI .u64 x8 q4), (IntKind.wrap .i64 (x35 + 1))))
  else
    Option.map (fun o => .inr o) (J6R x8)
theorem JeE {x0 : List UInt8} {x1 : Int} {x34 : Int} {x8 : Int} {x35 : Int} {o : ((Int × Int) ⊕ (Int × Int))} (h : J1u x0 x1 x34 x8 x35 = some o) :
    rk (J2 p) J42 0 [.lo 0 [0, 1, 8, 34, 35] J4W, .bl 1, .sq (.keep [8] J5K)] (X (J2 p) J4W ⟨[(0, .p (.s x0)), (1, .p (.i .i64 x1)), (8, .p (.i .u64 x8)), (34, .p (.i .i64 x34)), (35, .p (.i .i64 x35))], []⟩) = (JkS p x0 x1 x34) o := by
  unfold J1u at h
  rcases Jb h with ⟨h1, h⟩ | ⟨h1, h⟩
  · obtain ⟨c2, h3, h⟩ := bi h
    obtain ⟨q4, h5, h⟩ := bi h
    obtain rfl := sj h
    try simp only [↓Da, Ua, J4W, *, ↓reduceIte, Nat.reduceEqDiff, Nat.reduceAdd, Nat.reduceLT, Nat.reduceMul]
    rfl
  · obtain ⟨o', h', rfl⟩ := mi h
    try simp only [↓Da, Ua, J4W, *, ↓reduceIte, Nat.reduceEqDiff, Nat.reduceAdd, Nat.reduceLT, Nat.reduceMul]
    have e0 := JkU p h'
    exact e0
def JaN (x0 : List UInt8) (x1 : Int) (x34 : Int) (s : Int × Int) : Option (Int × Int) :=
  J00 (fun s => J1u x0 x1 x34 s.1 s.2) s
theorem JiT {x0 : List UInt8} {x1 : Int} {x34 : Int} {s : Int × Int} {o : Int × Int} (h : JaN x0 x1 x34 s = some o) :
    rk (J2 p) J42 0 [.bl 1, .sq (.keep [8] J5K)] (X (J2 p) (.lp 0 [0, 1, 8, 34, 35] J4W) ⟨[(0, .p (.s x0)), (1, .p (.i .i64 x1)), (8, .p (.i .u64 s.1)), (34, .p (.i .i64 x34)), (35, .p (.i .i64 s.2))], []⟩) = J8h o := by
  have h0 : J00 (fun s => J1u x0 x1 x34 s.1 s.2) s = some o := h
  exact J2k (P := fun (s : Int × Int) (o : Int × Int) => rk (J2 p) J42 0 [.bl 1, .sq (.keep [8] J5K)] (X (J2 p) (.lp 0 [0, 1, 8, 34, 35] J4W) ⟨[(0, .p (.s x0)), (1, .p (.i .i64 x1)), (8, .p (.i .u64 s.1)), (34, .p (.i .i64 x34)), (35, .p (.i .i64 s.2))], []⟩) = J8h o) (fun s r hs => by rw [J2e]; exact JeE p hs) (fun s s1 r hs ih => by rw [J2e]; exact (JeE p hs).trans ih) h0
def J0Q (x0 : List UInt8) (x1 : Int) (x2 : Int) : Option (Int × Int) :=
  if (decide (x2 < 1)) then
    some (0, 1)
  else
    if (decide (x2 > 8)) then
      some (0, 1)
    else
      if (decide (x1 < 0)) then
        some (0, 1)
      else
        if (decide (x1 > ((List.length x0 : Nat) : Int))) then
          some (0, 5)
        else
          if (decide ((IntKind.wrap .i64 (((List.length x0 : Nat) : Int) - x1)) < x2)) then
            some (0, 5)
          else
            JaN x0 x1 x2 (0, 0)
theorem Jis {x0 : List UInt8} {x1 : Int} {x2 : Int} {o : Int × Int} (h : J0Q x0 x1 x2 = some o) :
    rk (J2 p) J42 0 [] (X (J2 p) J2g ⟨[(0, .p (.s x0)), (1, .p (.i .i64 x1)), (2, .p (.i .i64 x2))], []⟩) = J8h o := by
  unfold J0Q at h
  rcases Jb h with ⟨h1, h⟩ | ⟨h1, h⟩
  · obtain rfl := sj h
    try simp only [↓Da, Ua, J2g, J8g, *, ↓reduceIte, Nat.reduceEqDiff, Nat.reduceAdd, Nat.reduceLT, Nat.reduceMul]
    rfl
  · try simp only [↓Da, Ua, J2g, *, ↓reduceIte, Nat.reduceEqDiff, Nat.reduceAdd, Nat.reduceLT, Nat.reduceMul]
    rcases Jb h with ⟨h2, h⟩ | ⟨h2, h⟩
    · obtain rfl := sj h
      try simp only [↓Da, Ua, J2g, J8g, *, ↓reduceIte, Nat.reduceEqDiff, Nat.reduceAdd, Nat.reduceLT, Nat.reduceMul]
      rfl
    · try simp only [↓Da, Ua, J2g, *, ↓reduceIte, Nat.reduceEqDiff, Nat.reduceAdd, Nat.reduceLT, Nat.reduceMul]
      rcases Jb h with ⟨h3, h⟩ | ⟨h3, h⟩
      · obtain rfl := sj h
        try simp only [↓Da, Ua, J2g, J8g, *, ↓reduceIte, Nat.reduceEqDiff, Nat.reduceAdd, Nat.reduceLT, Nat.reduceMul]
        rfl
      · try simp only [↓Da, Ua, J2g, *, ↓reduceIte, Nat.reduceEqDiff, Nat.reduceAdd, Nat.reduceLT, Nat.reduceMul]
        rcases Jb h with ⟨h4, h⟩ | ⟨h4, h⟩
        · obtain rfl := sj h
          try simp only [↓Da, Ua, J2g, J8g, *, ↓reduceIte, Nat.reduceEqDiff, Nat.reduceAdd, Nat.reduceLT, Nat.reduceMul]
          rfl
        · try simp only [↓Da, Ua, J2g, *, ↓reduceIte, Nat.reduceEqDiff, Nat.reduceAdd, Nat.reduceLT, Nat.reduceMul]
          rcases Jb h with ⟨h5, h⟩ | ⟨h5, h⟩
          · obtain rfl := sj h
            try simp only [↓Da, Ua, J2g, J8g, *, ↓reduceIte, Nat.reduceEqDiff, Nat.reduceAdd, Nat.reduceLT, Nat.reduceMul]
            rfl
          · try simp only [↓Da, Ua, J2g, *, ↓reduceIte, Nat.reduceEqDiff, Nat.reduceAdd, Nat.reduceLT, Nat.reduceMul]
            have e0 := JiT p h
            exact e0
theorem Jmz {x0 : List UInt8} {x1 : Int} {x2 : Int} {o : Int × Int} (h : J0Q x0 x1 x2 = some o) : AF (J2 p) J7o [.p (.s x0), .p (.i .i64 x1), .p (.i .i64 x2)] [] = J8h o :=
  (J0s (J2 p) (Jmr p) rfl).trans (Jis p h)
theorem JgZ {x0 : List UInt8} {x1 : Int} {x2 : Int} {o : Int × Int} (h : J0Q x0 x1 x2 = some o) : ∀ ws new st, (Jo (AF (J2 p)) J7o ([.p (.s x0), .p (.i .i64 x1), .p (.i .i64 x2)], ws) 0 new).run st = some ⟨.tup [.p (.i .i64 o.1), .p (.i .i64 o.2)], ws⟩ := JN rfl (Jmz p h) rfl
def J8d  (r : Int × Int) : Option Res := some (.tup [.p (.i .i64 r.1), .p (.i .i64 r.2)], [])
def JkE (x0 : List UInt8) (x1 : Int) (x2 : Int) (o : (Int × Int) ⊕ (Int × Int)) : Option Res := match o with
  | .inl s => rk (J2 p) J3Y 0 [.bl 0, .sq (.keep [8] J5L)] (X (J2 p) (.lp 0 [0, 1, 2, 8, 9] J4X) ⟨[(0, .p (.s x0)), (1, .p (.i .i64 x1)), (2, .p (.i .i64 x2)), (8, .p (.i .u64 s.1)), (9, .p (.i .i64 s.2))], []⟩)
  | .inr o => J8d o
def J9k (x8 : Int) : Option (Int × Int) :=
  some ((IntKind.wrap .i64 x8), 0)
theorem JkB {x8 : Int} {o : Int × Int} (h : J9k x8 = some o) :
    rk (J2 p) J3Y 0 [] (X (J2 p) J5L ⟨[(8, .p (.i .u64 x8))], []⟩) = J8d o := by
  unfold J9k at h
  obtain rfl := sj h
  try simp only [↓Da, Ua, J5L, J8e, ↓reduceIte, Nat.reduceEqDiff, Nat.reduceAdd, Nat.reduceLT, Nat.reduceMul]
  rfl
def J6M (x0 : List UInt8) (x1 : Int) (x2 : Int) (x8 : Int) (x9 : Int) : Option (((Int × Int) ⊕ (Int × Int))) :=
  if (decide (x9 < x2)) then
    Option.bind (Jfi x0 (IntKind.wrap .i64 (x1 + x9))) fun c2 =>
    Option.bind (Jeo .u64 (IntKind.wrap .u64 c2) (IntKind.wrap .u64 (IntKind.wrap .i64 (8 * x9)))) fun q4 =>
    some (.inl ((orI .u64 x8 q4), (IntKind.wrap .i64 (x9 + 1))))
  else
    Option.map (fun o => .inr o) (J9k x8)
theorem JeB {x0 : List UInt8} {x1 : Int} {x2 : Int} {x8 : Int} {x9 : Int} {o : ((Int × Int) ⊕ (Int × Int))} (h : J6M x0 x1 x2 x8 x9 = some o) :
    rk (J2 p) J3Y 0 [.lo 0 [0, 1, 2, 8, 9] J4X, .bl 0, .sq (.keep [8] J5L)] (X (J2 p) J4X ⟨[(0, .p (.s x0)), (1, .p (.i .i64 x1)), (2, .p (.i .i64 x2)), (8, .p (.i .u64 x8)), (9, .p (.i .i64 x9))], []⟩) = (JkE p x0 x1 x2) o := by
  unfold J6M at h
  rcases Jb h with ⟨h1, h⟩ | ⟨h1, h⟩
  · obtain ⟨c2, h3, h⟩ := bi h
    obtain ⟨q4, h5, h⟩ := bi h
    obtain rfl := sj h
    try simp only [↓Da, Ua, J4X, *, ↓reduceIte, Nat.reduceEqDiff, Nat.reduceAdd, Nat.reduceLT, Nat.reduceMul]
    rfl
  · obtain ⟨o', h', rfl⟩ := mi h
    try simp only [↓Da, Ua, J4X, *, ↓reduceIte, Nat.reduceEqDiff, Nat.reduceAdd, Nat.reduceLT, Nat.reduceMul]
    have e0 := JkB p h'
    exact e0
def JaK (x0 : List UInt8) (x1 : Int) (x2 : Int) (s : Int × Int) : Option (Int × Int) :=
  J00 (fun s => J6M x0 x1 x2 s.1 s.2) s
theorem Jil {x0 : List UInt8} {x1 : Int} {x2 : Int} {s : Int × Int} {o : Int × Int} (h : JaK x0 x1 x2 s = some o) :
    rk (J2 p) J3Y 0 [.bl 0, .sq (.keep [8] J5L)] (X (J2 p) (.lp 0 [0, 1, 2, 8, 9] J4X) ⟨[(0, .p (.s x0)), (1, .p (.i .i64 x1)), (2, .p (.i .i64 x2)), (8, .p (.i .u64 s.1)), (9, .p (.i .i64 s.2))], []⟩) = J8d o := by
  have h0 : J00 (fun s => J6M x0 x1 x2 s.1 s.2) s = some o := h
  exact J2k (P := fun (s : Int × Int) (o : Int × Int) => rk (J2 p) J3Y 0 [.bl 0, .sq (.keep [8] J5L)] (X (J2 p) (.lp 0 [0, 1, 2, 8, 9] J4X) ⟨[(0, .p (.s x0)), (1, .p (.i .i64 x1)), (2, .p (.i .i64 x2)), (8, .p (.i .u64 s.1)), (9, .p (.i .i64 s.2))], []⟩) = J8d o) (fun s r hs => by rw [J2e]; exact JeB p hs) (fun s s1 r hs ih => by rw [J2e]; exact (JeB p hs).trans ih) h0
def J43 (x0 : List UInt8) (x1 : Int) (x2 : Int) : Option (Int × Int) :=
  if (decide (x2 < 1)) then
    some (0, 1)
  else
    if (decide (x2 > 8)) then
      some (0, 1)
    else
      if (decide (x1 < 0)) then
        some (0, 1)
      else
        if (decide (x1 > ((List.length x0 : Nat) : Int))) then
          some (0, 5)
        else
          if (decide ((IntKind.wrap .i64 (((List.length x0 : Nat) : Int) - x1)) < x2)) then
            some (0, 5)
          else
            JaK x0 x1 x2 (0, 0)
theorem Jid {x0 : List UInt8} {x1 : Int} {x2 : Int} {o : Int × Int} (h : J43 x0 x1 x2 = some o) :
    rk (J2 p) J3Y 0 [] (X (J2 p) J2i ⟨[(0, .p (.s x0)), (1, .p (.i .i64 x1)), (2, .p (.i .i64 x2))], []⟩) = J8d o := by
  unfold J43 at h
  rcases Jb h with ⟨h1, h⟩ | ⟨h1, h⟩
  · obtain rfl := sj h
    try simp only [↓Da, Ua, J2i, J8e, *, ↓reduceIte, Nat.reduceEqDiff, Nat.reduceAdd, Nat.reduceLT, Nat.reduceMul]
    rfl
  · try simp only [↓Da, Ua, J2i, *, ↓reduceIte, Nat.reduceEqDiff, Nat.reduceAdd, Nat.reduceLT, Nat.reduceMul]
    rcases Jb h with ⟨h2, h⟩ | ⟨h2, h⟩
    · obtain rfl := sj h
      try simp only [↓Da, Ua, J2i, J8e, *, ↓reduceIte, Nat.reduceEqDiff, Nat.reduceAdd, Nat.reduceLT, Nat.reduceMul]
      rfl
    · try simp only [↓Da, Ua, J2i, *, ↓reduceIte, Nat.reduceEqDiff, Nat.reduceAdd, Nat.reduceLT, Nat.reduceMul]
      rcases Jb h with ⟨h3, h⟩ | ⟨h3, h⟩
      · obtain rfl := sj h
        try simp only [↓Da, Ua, J2i, J8e, *, ↓reduceIte, Nat.reduceEqDiff, Nat.reduceAdd, Nat.reduceLT, Nat.reduceMul]
        rfl
      · try simp only [↓Da, Ua, J2i, *, ↓reduceIte, Nat.reduceEqDiff, Nat.reduceAdd, Nat.reduceLT, Nat.reduceMul]
        rcases Jb h with ⟨h4, h⟩ | ⟨h4, h⟩
        · obtain rfl := sj h
          try simp only [↓Da, Ua, J2i, J8e, *, ↓reduceIte, Nat.reduceEqDiff, Nat.reduceAdd, Nat.reduceLT, Nat.reduceMul]
          rfl
        · try simp only [↓Da, Ua, J2i, *, ↓reduceIte, Nat.reduceEqDiff, Nat.reduceAdd, Nat.reduceLT, Nat.reduceMul]
          rcases Jb h with ⟨h5, h⟩ | ⟨h5, h⟩
          · obtain rfl := sj h
            try simp only [↓Da, Ua, J2i, J8e, *, ↓reduceIte, Nat.reduceEqDiff, Nat.reduceAdd, Nat.reduceLT, Nat.reduceMul]
            rfl
          · try simp only [↓Da, Ua, J2i, *, ↓reduceIte, Nat.reduceEqDiff, Nat.reduceAdd, Nat.reduceLT, Nat.reduceMul]
            have e0 := Jil p h
            exact e0
theorem JmX {x0 : List UInt8} {x1 : Int} {x2 : Int} {o : Int × Int} (h : J43 x0 x1 x2 = some o) : AF (J2 p) J5u [.p (.s x0), .p (.i .i64 x1), .p (.i .i64 x2)] [] = J8d o :=
  (J0s (J2 p) (JmQ p) rfl).trans (Jid p h)
theorem Jax {x0 : List UInt8} {x1 : Int} {x2 : Int} {o : Int × Int} (h : J43 x0 x1 x2 = some o) : ∀ ws new st, (Jo (AF (J2 p)) J5u ([.p (.s x0), .p (.i .i64 x1), .p (.i .i64 x2)], ws) 0 new).run st = some ⟨.tup [.p (.i .i64 o.1), .p (.i .i64 o.2)], ws⟩ := JN rfl (JmX p h) rfl
def JaY  (r : Jm × T_pagemenddraw_Codes) : Option Res := some (.data (Jr r.1), [.box (List.map AV.p (J0 r.2))])
def J2T (b0 : T_pagemenddraw_Codes) : Option (Jm × T_pagemenddraw_Codes) :=
  Option.bind (Js b0 3) fun r1 =>
  if ((r1.1 : Int) == 0) then
    some ((⟨false, ([] : List UInt8)⟩ : Jm), r1.2)
  else
    Option.bind (J1Y r1.2) fun r5 =>
    Option.bind (J7D r5.1 none (some (JhP ((List.length r5.1 : Nat) : Int) 12))) fun m8 =>
    some ((⟨true, m8⟩ : Jm), r5.2)
theorem Jdh {b0 : T_pagemenddraw_Codes} {o : Jm × T_pagemenddraw_Codes} (h : J2T b0 = some o) :
    rk (J2 p) J4S 1 [] (X (J2 p) J3I ⟨[(0, .ptr 0 0)], [.box (List.map AV.p (J0 b0))]⟩) = JaY o := by
  unfold J2T at h
  obtain ⟨r1, h2, h⟩ := bi h
  have f3 : ∀ ws new s, JB ws s [0] [List.map AV.p (J0 b0)] → (Jo (AF (J2 p)) J9 ([.ptr 0 0, .p (.i .i64 3)], ws) 0 new).run s = some ⟨.p (.i .i64 r1.1), ws ++ [(0, .box (List.map AV.p (J0 r1.2)))]⟩ := Jw (args' := [.ptr 0 0, .p (.i .i64 3)]) (bs := [0]) (css := [List.map AV.p (J0 b0)]) (css' := [List.map AV.p (J0 r1.2)]) rfl rfl rfl (by simp [Ji, J6]) (Ju p h2) rfl rfl (by simp [Ji, J6])
  try simp only [Nf] at f3
  try simp only [↓Da, Ua, J3I, Ja, Jd, *, ↓reduceIte, Nat.reduceEqDiff, Nat.reduceAdd, Nat.reduceLT, Nat.reduceMul]
  rcases Jb h with ⟨h4, h⟩ | ⟨h4, h⟩
  · have h4n : ((r1.1 : Int) != 0) = false := by rw [bne, h4]; rfl
    obtain rfl := sj h
    try simp only [↓Da, Ua, J3I, Ja, Jd, Jb2, *, ↓reduceIte, Nat.reduceEqDiff, Nat.reduceAdd, Nat.reduceLT, Nat.reduceMul]
    rfl
  · have h4n : ((r1.1 : Int) != 0) = true := by rw [bne, h4]; rfl
    obtain ⟨r5, h6, h⟩ := bi h
    have f7 : ∀ ws new s, JB ws s [0] [List.map AV.p (J0 r1.2)] → (Jo (AF (J2 p)) J2V ([.ptr 0 0], ws) 0 new).run s = some ⟨.p (.s r5.1), ws ++ [(0, .box (List.map AV.p (J0 r5.2)))]⟩ := Jw (args' := [.ptr 0 0]) (bs := [0]) (css := [List.map AV.p (J0 r1.2)]) (css' := [List.map AV.p (J0 r5.2)]) rfl rfl rfl (by simp [Ji, J6]) (JaX p h6) rfl rfl (by simp [Ji, J6])
    try simp only [Nf] at f7
    obtain ⟨m8, h9, h⟩ := bi h
    have f10 : J61 (.p (.s r5.1)) none (some (.p (.i .i64 (JhP ((List.length r5.1 : Nat) : Int) 12)))) = some (.p (.s m8)) := J9t (k := .i64) (lo := none) (hi := (some (JhP ((List.length r5.1 : Nat) : Int) 12))) h9
    try simp only [Nf] at f10
    obtain rfl := sj h
    try simp only [↓Da, Ua, J3I, Ja, Jd, Jb2, *, ↓reduceIte, Nat.reduceEqDiff, Nat.reduceAdd, Nat.reduceLT, Nat.reduceMul]
    rfl
theorem Jb3 {b0 : T_pagemenddraw_Codes} {o : Jm × T_pagemenddraw_Codes} (h : J2T b0 = some o) : AF (J2 p) J2P [.ptr 0 0] [.box (List.map AV.p (J0 b0))] = JaY o :=
  (J0s (J2 p) (JgI p) rfl).trans (Jdh p h)
def Jdq  (r : Bool) : Option Res := some (.p (.b r), [])
def J2N (x0 : Int) (x1 : J3) : Option (Bool) :=
  if (decide (x0 ≥ 0)) then
    some (decide (x0 < x1.LSN))
  else
    some false
theorem Jfp {x0 : Int} {x1 : J3} {o : Bool} (h : J2N x0 x1 = some o) :
    rk (J2 p) J6l 0 [] (X (J2 p) J6o ⟨[(0, .p (.i .i64 x0)), (1, .data (J4 x1))], []⟩) = Jdq o := by
  unfold J2N at h
  rcases Jb h with ⟨h1, h⟩ | ⟨h1, h⟩
  · obtain rfl := sj h
    try simp only [↓Da, Ua, J6o, Ja, J8, Jh, Jdd, *, ↓reduceIte, Nat.reduceEqDiff, Nat.reduceAdd, Nat.reduceLT, Nat.reduceMul]
    rfl
  · obtain rfl := sj h
    try simp only [↓Da, Ua, J6o, Ja, J8, Jh, Jdd, *, ↓reduceIte, Nat.reduceEqDiff, Nat.reduceAdd, Nat.reduceLT, Nat.reduceMul]
    rfl
theorem Jj9 {x0 : Int} {x1 : J3} {o : Bool} (h : J2N x0 x1 = some o) : AF (J2 p) J4g [.p (.i .i64 x0), .data (J4 x1)] [] = Jdq o :=
  (J0s (J2 p) (Jjq p) rfl).trans (Jfp p h)
theorem Jao {x0 : Int} {x1 : J3} {o : Bool} (h : J2N x0 x1 = some o) : ∀ ws new st, (Jo (AF (J2 p)) J4g ([.p (.i .i64 x0), .data (J4 x1)], ws) 0 new).run st = some ⟨.p (.b o), ws⟩ := JN rfl (Jj9 p h) rfl
def JeH (r : Unit) : Option Res := some (.agg [.p (.b false), .p (.b false), .p (.b false), .p (.b false), .p (.b false), .p .nf, .p .nf, .p (.b true), .p (.b false), .p (.b true), .p (.b false), .p (.b false), .fn JH [] [], .fn J0C [] [], .p (.b true), .p (.b true), .p (.b true), .p (.b true), .p (.b false), .fn J1B [] [], .fn J0C [] [], .p (.b true), .p (.b true), .p (.b false), .p (.b false), .p (.b false), .fn JH [] [], .fn J0m [] [], .p (.b true), .p (.b true), .p (.b false), .p (.b false), .p (.b false), .fn JH [] [], .fn J0m [] [], .p (.b true), .p (.b true), .p (.b false), .p (.b false), .p (.b false), .fn JH [] [], .fn J0m [] [], .p (.b false), .p (.b false), .p (.b false), .p (.b false), .p (.b true), .fn JH [] [], .fn J0m [] [], .p (.b false), .p (.b false), .p (.b false), .p (.b true), .p (.b false), .fn JH [] [], .fn J1x [] [], .p (.b false), .p (.b false), .p (.b false), .p (.b false), .p (.b true), .fn JH [] [], .fn J0m [] []], [])
def J5P  : Option (Unit) :=
  some ()
theorem JgN  {o : Unit} (h : J5P = some o) :
    rk (J2 p) J6X 0 [] (X (J2 p) J83 ⟨[], []⟩) = JeH o := by
  unfold J5P at h
  obtain rfl := sj h
  try simp only [↓Da, Ua, J83, Jko, ↓reduceIte, Nat.reduceEqDiff, Nat.reduceAdd, Nat.reduceLT, Nat.reduceMul]
  rfl
theorem JkD  {o : Unit} (h : J5P = some o) : AF (J2 p) J5S [] [] = JeH o :=
  (J0s (J2 p) (Jky p) rfl).trans (JgN p h)
theorem JkO {o : Unit} (h : J5P = some o) : ∀ ws new st, (Jo (AF (J2 p)) J5S ([], ws) 0 new).run st = some ⟨.agg [.p (.b false), .p (.b false), .p (.b false), .p (.b false), .p (.b false), .p .nf, .p .nf, .p (.b true), .p (.b false), .p (.b true), .p (.b false), .p (.b false), .fn JH [] [], .fn J0C [] [], .p (.b true), .p (.b true), .p (.b true), .p (.b true), .p (.b false), .fn J1B [] [], .fn J0C [] [], .p (.b true), .p (.b true), .p (.b false), .p (.b false), .p (.b false), .fn JH [] [], .fn J0m [] [], .p (.b true), .p (.b true), .p (.b false), .p (.b false), .p (.b false), .fn JH [] [], .fn J0m [] [], .p (.b true), .p (.b true), .p (.b false), .p (.b false), .p (.b false), .fn JH [] [], .fn J0m [] [], .p (.b false), .p (.b false), .p (.b false), .p (.b false), .p (.b true), .fn JH [] [], .fn J0m [] [], .p (.b false), .p (.b false), .p (.b false), .p (.b true), .p (.b false), .fn JH [] [], .fn J1x [] [], .p (.b false), .p (.b false), .p (.b false), .p (.b false), .p (.b true), .fn JH [] [], .fn J0m [] []], ws⟩ :=
  Jqf rfl (JkD p h) (fun _ => rfl)
def J1b (x0 : List T_api_Row) : Option (List T_api_Row) := if (2 * x0.length + 512) * 24 ≤ 281474976710656 then some x0 else none
theorem J7c {x0 : List T_api_Row} {o : List T_api_Row} (h : J1b x0 = some o) : AF (J2 p) J0I [.p (.sl 3 (List.map J7 x0))] [] = some (.slr 0 0 o.length, [.arr true 3 (List.map J7 o)]) := by
  unfold J1b at h
  split at h
  · rename_i h2
    injection h with h; subst h
    rw [Jrc _ (J9R p)]
    cases x0 with
    | nil => simp [J1H, Jba, Je2, Ja5.af]
    | cons a r =>
      simp at h2
      simp [J1H, Jba, Je2, Ja5.af, h2]
  · cases h
def Jdx  (r : Bool) : Option Res := some (.p (.b r), [])
def J2O (x0 : Int) (x1 : Int) : Option (Bool) :=
  if (decide (x0 ≥ 0)) then
    some (decide (x0 < x1))
  else
    some false
theorem Jfd {x0 : Int} {x1 : Int} {o : Bool} (h : J2O x0 x1 = some o) :
    rk (J2 p) J6j 0 [] (X (J2 p) J6q ⟨[(0, .p (.i .i64 x0)), (1, .p (.i .i64 x1))], []⟩) = Jdx o := by
  unfold J2O at h
  rcases Jb h with ⟨h1, h⟩ | ⟨h1, h⟩
  · obtain rfl := sj h
    try simp only [↓Da, Ua, J6q, Jdp, *, ↓reduceIte, Nat.reduceEqDiff, Nat.reduceAdd, Nat.reduceLT, Nat.reduceMul]
    rfl
  · obtain rfl := sj h
    try simp only [↓Da, Ua, J6q, Jdp, *, ↓reduceIte, Nat.reduceEqDiff, Nat.reduceAdd, Nat.reduceLT, Nat.reduceMul]
    rfl
theorem JjG {x0 : Int} {x1 : Int} {o : Bool} (h : J2O x0 x1 = some o) : AF (J2 p) J4s [.p (.i .i64 x0), .p (.i .i64 x1)] [] = Jdx o :=
  (J0s (J2 p) (Jjy p) rfl).trans (Jfd p h)
theorem Jaf {x0 : Int} {x1 : Int} {o : Bool} (h : J2O x0 x1 = some o) : ∀ ws new st, (Jo (AF (J2 p)) J4s ([.p (.i .i64 x0), .p (.i .i64 x1)], ws) 0 new).run st = some ⟨.p (.b o), ws⟩ := JN rfl (JjG p h) rfl
def JaZ  (r : Bool) : Option Res := some (.p (.b r), [])
def J2S (x0 : Jm) : Option (Bool) :=
  if (decide (((List.length x0.Data : Nat) : Int) ≤ 12)) then
    if x0.Set then
      some true
    else
      some (x0.Data == [])
  else
    some false
theorem Jdi {x0 : Jm} {o : Bool} (h : J2S x0 = some o) :
    rk (J2 p) J4M 0 [] (X (J2 p) J2Q ⟨[(0, .data (Jr x0))], []⟩) = JaZ o := by
  unfold J2S at h
  rcases Jb h with ⟨h1, h⟩ | ⟨h1, h⟩
  · try simp only [↓Da, Ua, J2Q, Ja, *, ↓reduceIte, Nat.reduceEqDiff, Nat.reduceAdd, Nat.reduceLT, Nat.reduceMul]
    rcases Jb h with ⟨h2, h⟩ | ⟨h2, h⟩
    · obtain rfl := sj h
      try simp only [↓Da, Ua, J2Q, Ja, J93, *, ↓reduceIte, Nat.reduceEqDiff, Nat.reduceAdd, Nat.reduceLT, Nat.reduceMul]
      rfl
    · obtain rfl := sj h
      try simp only [↓Da, Ua, J2Q, Ja, J93, *, ↓reduceIte, Nat.reduceEqDiff, Nat.reduceAdd, Nat.reduceLT, Nat.reduceMul]
      rfl
  · obtain rfl := sj h
    try simp only [↓Da, Ua, J2Q, Ja, J93, *, ↓reduceIte, Nat.reduceEqDiff, Nat.reduceAdd, Nat.reduceLT, Nat.reduceMul]
    rfl
theorem JgA {x0 : Jm} {o : Bool} (h : J2S x0 = some o) : AF (J2 p) J3H [.data (Jr x0)] [] = JaZ o :=
  (J0s (J2 p) (Jgu p) rfl).trans (Jdi p h)
theorem JaV {x0 : Jm} {o : Bool} (h : J2S x0 = some o) : ∀ ws new st, (Jo (AF (J2 p)) J3H ([.data (Jr x0)], ws) 0 new).run st = some ⟨.p (.b o), ws⟩ := JN rfl (JgA p h) rfl
def JbI  (r : Bool) : Option Res := some (.p (.b r), [])
def J0W (x0 : J3) : Option (Bool) :=
  some true
theorem Jes {x0 : J3} {o : Bool} (h : J0W x0 = some o) :
    rk (J2 p) J5m 0 [] (X (J2 p) J6w ⟨[(0, .data (J4 x0))], []⟩) = JbI o := by
  unfold J0W at h
  obtain rfl := sj h
  try simp only [↓Da, Ua, J6w, Ja, J8, Jh, JhO, ↓reduceIte, Nat.reduceEqDiff, Nat.reduceAdd, Nat.reduceLT, Nat.reduceMul]
  rfl
theorem Jhl {x0 : J3} {o : Bool} (h : J0W x0 = some o) : AF (J2 p) JH [.data (J4 x0)] [] = JbI o :=
  (J0s (J2 p) (Jhp p) rfl).trans (Jes p h)
theorem J7T {x0 : J3} {o : Bool} (h : J0W x0 = some o) : ∀ ws new st, (Jo (AF (J2 p)) JH ([.data (J4 x0)], ws) 0 new).run st = some ⟨.p (.b o), ws⟩ := JN rfl (Jhl p h) rfl
def JfA  (r : Bool) : Option Res := some (.p (.b r), [])
def J5z (x0 : Jk) : Option (Bool) :=
  some (x0 == (⟨0, 0, (⟨false, ([] : List UInt8)⟩ : Jm), (⟨false, ([] : List UInt8)⟩ : Jm)⟩ : Jk))
theorem Ji3 {x0 : Jk} {o : Bool} (h : J5z x0 = some o) :
    rk (J2 p) J7z 0 [] (X (J2 p) J8K ⟨[(0, .data (Jf x0))], []⟩) = JfA o := by
  unfold J5z at h
  obtain rfl := sj h
  try simp only [↓Da, Ua, J8K, Ja, J8, J6m, Jlp, ↓reduceIte, Nat.reduceEqDiff, Nat.reduceAdd, Nat.reduceLT, Nat.reduceMul]
  rfl
theorem JlE {x0 : Jk} {o : Bool} (h : J5z x0 = some o) : AF (J2 p) J0m [.data (Jf x0)] [] = JfA o :=
  (J0s (J2 p) (Jm0 p) rfl).trans (Ji3 p h)
theorem JfR {x0 : Jk} {o : Bool} (h : J5z x0 = some o) : ∀ ws new st, (Jo (AF (J2 p)) J0m ([.data (Jf x0)], ws) 0 new).run st = some ⟨.p (.b o), ws⟩ := JN rfl (JlE p h) rfl
def JbB  (r : Bool) : Option Res := some (.p (.b r), [])
def J5g (x0 : J3) : Option (Bool) :=
  if (decide (x0.Ref ≥ 1)) then
    some (decide (x0.Ref ≤ x0.PrevTx))
  else
    some false
theorem Jey {x0 : J3} {o : Bool} (h : J5g x0 = some o) :
    rk (J2 p) J5b 0 [] (X (J2 p) J5c ⟨[(0, .data (J4 x0))], []⟩) = JbB o := by
  unfold J5g at h
  rcases Jb h with ⟨h1, h⟩ | ⟨h1, h⟩
  · obtain rfl := sj h
    try simp only [↓Da, Ua, J5c, Ja, J8, Jh, JbF, *, ↓reduceIte, Nat.reduceEqDiff, Nat.reduceAdd, Nat.reduceLT, Nat.reduceMul]
    rfl
  · obtain rfl := sj h
    try simp only [↓Da, Ua, J5c, Ja, J8, Jh, JbF, *, ↓reduceIte, Nat.reduceEqDiff, Nat.reduceAdd, Nat.reduceLT, Nat.reduceMul]
    rfl
theorem JhB {x0 : J3} {o : Bool} (h : J5g x0 = some o) : AF (J2 p) J1B [.data (J4 x0)] [] = JbB o :=
  (J0s (J2 p) (JhV p) rfl).trans (Jey p h)
theorem JhU {x0 : J3} {o : Bool} (h : J5g x0 = some o) : ∀ ws new st, (Jo (AF (J2 p)) J1B ([.data (J4 x0)], ws) 0 new).run st = some ⟨.p (.b o), ws⟩ := JN rfl (JhB p h) rfl
def JbE  (r : Bool) : Option Res := some (.p (.b r), [])
def J4e (x0 : Jk) : Option (Bool) :=
  if (x0 == (⟨x0.Page, 0, (⟨false, ([] : List UInt8)⟩ : Jm), (⟨false, ([] : List UInt8)⟩ : Jm)⟩ : Jk)) then
    if (decide (x0.Page ≥ 0)) then
      some (decide (x0.Page < 64))
    else
      some false
  else
    some false
theorem Je4 {x0 : Jk} {o : Bool} (h : J4e x0 = some o) :
    rk (J2 p) J57 0 [] (X (J2 p) J2v ⟨[(0, .data (Jf x0))], []⟩) = JbE o := by
  unfold J4e at h
  try simp only [↓Da, Ua, J2v, Ja, J8, J6m, ↓reduceIte, Nat.reduceEqDiff, Nat.reduceAdd, Nat.reduceLT, Nat.reduceMul]
  rcases Jb h with ⟨h2, h⟩ | ⟨h2, h⟩
  · try simp only [↓Da, Ua, J2v, Ja, J8, J6m, *, ↓reduceIte, Nat.reduceEqDiff, Nat.reduceAdd, Nat.reduceLT, Nat.reduceMul]
    rcases Jb h with ⟨h3, h⟩ | ⟨h3, h⟩
    · obtain rfl := sj h
      try simp only [↓Da, Ua, J2v, Ja, J8, J6m, J9o, *, ↓reduceIte, Nat.reduceEqDiff, Nat.reduceAdd, Nat.reduceLT, Nat.reduceMul]
      rfl
    · obtain rfl := sj h
      try simp only [↓Da, Ua, J2v, Ja, J8, J6m, J9o, *, ↓reduceIte, Nat.reduceEqDiff, Nat.reduceAdd, Nat.reduceLT, Nat.reduceMul]
      rfl
  · obtain rfl := sj h
    try simp only [↓Da, Ua, J2v, Ja, J8, J6m, J9o, *, ↓reduceIte, Nat.reduceEqDiff, Nat.reduceAdd, Nat.reduceLT, Nat.reduceMul]
    rfl
theorem Jhh {x0 : Jk} {o : Bool} (h : J4e x0 = some o) : AF (J2 p) J1x [.data (Jf x0)] [] = JbE o :=
  (J0s (J2 p) (JhI p) rfl).trans (Je4 p h)
theorem Jhv {x0 : Jk} {o : Bool} (h : J4e x0 = some o) : ∀ ws new st, (Jo (AF (J2 p)) J1x ([.data (Jf x0)], ws) 0 new).run st = some ⟨.p (.b o), ws⟩ := JN rfl (Jhh p h) rfl
def JeD  (r : Bool) : Option Res := some (.p (.b r), [])
def J3l (x0 : Jk) : Option (Bool) :=
  if (decide (x0.Page ≥ 0)) then
    if (decide (x0.Page < 64)) then
      if (decide (x0.Slot ≥ 0)) then
        if (decide (x0.Slot < 16)) then
          Option.bind (J2S x0.Before) fun r5 =>
          if r5 then
            Option.bind (J2S x0.After) fun r9 =>
            some r9
          else
            some false
        else
          some false
      else
        some false
    else
      some false
  else
    some false
theorem JgC {x0 : Jk} {o : Bool} (h : J3l x0 = some o) :
    rk (J2 p) J71 0 [] (X (J2 p) J1t ⟨[(0, .data (Jf x0))], []⟩) = JeD o := by
  unfold J3l at h
  rcases Jb h with ⟨h1, h⟩ | ⟨h1, h⟩
  · try simp only [↓Da, Ua, J1t, Ja, J8, *, ↓reduceIte, Nat.reduceEqDiff, Nat.reduceAdd, Nat.reduceLT, Nat.reduceMul]
    rcases Jb h with ⟨h2, h⟩ | ⟨h2, h⟩
    · try simp only [↓Da, Ua, J1t, Ja, J8, *, ↓reduceIte, Nat.reduceEqDiff, Nat.reduceAdd, Nat.reduceLT, Nat.reduceMul]
      rcases Jb h with ⟨h3, h⟩ | ⟨h3, h⟩
      · try simp only [↓Da, Ua, J1t, Ja, J8, *, ↓reduceIte, Nat.reduceEqDiff, Nat.reduceAdd, Nat.reduceLT, Nat.reduceMul]
        rcases Jb h with ⟨h4, h⟩ | ⟨h4, h⟩
        · obtain ⟨r5, h6, h⟩ := bi h
          have f7 := JaV p h6
          try simp only [Nf] at f7
          try simp only [↓Da, Ua, J1t, Ja, J8, *, ↓reduceIte, Nat.reduceEqDiff, Nat.reduceAdd, Nat.reduceLT, Nat.reduceMul]
          rcases Jb h with ⟨h8, h⟩ | ⟨h8, h⟩
          · obtain ⟨r9, h10, h⟩ := bi h
            have f11 := JaV p h10
            try simp only [Nf] at f11
            obtain rfl := sj h
            try simp only [↓Da, Ua, J1t, Ja, J8, J6O, *, ↓reduceIte, Nat.reduceEqDiff, Nat.reduceAdd, Nat.reduceLT, Nat.reduceMul]
            rfl
          · obtain rfl := sj h
            try simp only [↓Da, Ua, J1t, Ja, J8, J6O, *, ↓reduceIte, Nat.reduceEqDiff, Nat.reduceAdd, Nat.reduceLT, Nat.reduceMul]
            rfl
        · obtain rfl := sj h
          try simp only [↓Da, Ua, J1t, Ja, J8, J6O, *, ↓reduceIte, Nat.reduceEqDiff, Nat.reduceAdd, Nat.reduceLT, Nat.reduceMul]
          rfl
      · obtain rfl := sj h
        try simp only [↓Da, Ua, J1t, Ja, J8, J6O, *, ↓reduceIte, Nat.reduceEqDiff, Nat.reduceAdd, Nat.reduceLT, Nat.reduceMul]
        rfl
    · obtain rfl := sj h
      try simp only [↓Da, Ua, J1t, Ja, J8, J6O, *, ↓reduceIte, Nat.reduceEqDiff, Nat.reduceAdd, Nat.reduceLT, Nat.reduceMul]
      rfl
  · obtain rfl := sj h
    try simp only [↓Da, Ua, J1t, Ja, J8, J6O, *, ↓reduceIte, Nat.reduceEqDiff, Nat.reduceAdd, Nat.reduceLT, Nat.reduceMul]
    rfl
theorem JkM {x0 : Jk} {o : Bool} (h : J3l x0 = some o) : AF (J2 p) J6J [.data (Jf x0)] [] = JeD o :=
  (J0s (J2 p) (JkF p) rfl).trans (JgC p h)
theorem JkR {x0 : Jk} {o : Bool} (h : J3l x0 = some o) : ∀ ws new st, (Jo (AF (J2 p)) J6J ([.data (Jf x0)], ws) 0 new).run st = some ⟨.p (.b o), ws⟩ := JN rfl (JkM p h) rfl
def JdC  (r : Bool) : Option Res := some (.p (.b r), [])
def J58 (x0 : Int) : Option (Bool) :=
  if (decide (x0 ≥ 0)) then
    some (decide (x0 < 64))
  else
    some false
theorem JfM {x0 : Int} {o : Bool} (h : J58 x0 = some o) :
    rk (J2 p) J6g 0 [] (X (J2 p) J6i ⟨[(0, .p (.i .i64 x0))], []⟩) = JdC o := by
  unfold J58 at h
  rcases Jb h with ⟨h1, h⟩ | ⟨h1, h⟩
  · obtain rfl := sj h
    try simp only [↓Da, Ua, J6i, Jdy, *, ↓reduceIte, Nat.reduceEqDiff, Nat.reduceAdd, Nat.reduceLT, Nat.reduceMul]
    rfl
  · obtain rfl := sj h
    try simp only [↓Da, Ua, J6i, Jdy, *, ↓reduceIte, Nat.reduceEqDiff, Nat.reduceAdd, Nat.reduceLT, Nat.reduceMul]
    rfl
theorem Jj4 {x0 : Int} {o : Bool} (h : J58 x0 = some o) : AF (J2 p) J6k [.p (.i .i64 x0)] [] = JdC o :=
  (J0s (J2 p) (JiZ p) rfl).trans (JfM p h)
theorem JiY {x0 : Int} {o : Bool} (h : J58 x0 = some o) : ∀ ws new st, (Jo (AF (J2 p)) J6k ([.p (.i .i64 x0)], ws) 0 new).run st = some ⟨.p (.b o), ws⟩ := JN rfl (Jj4 p h) rfl
def JaH  (r : Bool) : Option Res := some (.p (.b r), [])
def J1q (x0 : Jm) : Option (Bool) :=
  if (decide (((List.length x0.Data : Nat) : Int) ≤ 12)) then
    if x0.Set then
      some true
    else
      some (x0.Data == [])
  else
    some false
theorem Jd3 {x0 : Jm} {o : Bool} (h : J1q x0 = some o) :
    rk (J2 p) J4n 0 [] (X (J2 p) J2j ⟨[(0, .data (Jr x0))], []⟩) = JaH o := by
  unfold J1q at h
  rcases Jb h with ⟨h1, h⟩ | ⟨h1, h⟩
  · try simp only [↓Da, Ua, J2j, Ja, *, ↓reduceIte, Nat.reduceEqDiff, Nat.reduceAdd, Nat.reduceLT, Nat.reduceMul]
    rcases Jb h with ⟨h2, h⟩ | ⟨h2, h⟩
    · obtain rfl := sj h
      try simp only [↓Da, Ua, J2j, Ja, J8D, *, ↓reduceIte, Nat.reduceEqDiff, Nat.reduceAdd, Nat.reduceLT, Nat.reduceMul]
      rfl
    · obtain rfl := sj h
      try simp only [↓Da, Ua, J2j, Ja, J8D, *, ↓reduceIte, Nat.reduceEqDiff, Nat.reduceAdd, Nat.reduceLT, Nat.reduceMul]
      rfl
  · obtain rfl := sj h
    try simp only [↓Da, Ua, J2j, Ja, J8D, *, ↓reduceIte, Nat.reduceEqDiff, Nat.reduceAdd, Nat.reduceLT, Nat.reduceMul]
    rfl
theorem Jfb {x0 : Jm} {o : Bool} (h : J1q x0 = some o) : AF (J2 p) J3a [.data (Jr x0)] [] = JaH o :=
  (J0s (J2 p) (Jfe p) rfl).trans (Jd3 p h)
theorem Jaz {x0 : Jm} {o : Bool} (h : J1q x0 = some o) : ∀ ws new st, (Jo (AF (J2 p)) J3a ([.data (Jr x0)], ws) 0 new).run st = some ⟨.p (.b o), ws⟩ := JN rfl (Jfb p h) rfl
def J6U  (r : T_api_Index × T_pagemenddraw_Codes) : Option Res := some (.data (J5 r.1), [.box (List.map AV.p (J0 r.2))])
def Jcq (b1 : T_api_Index) (o : (Int × T_pagemenddraw_Codes × (List T_api_Row)) ⊕ (T_api_Index × T_pagemenddraw_Codes)) : Option Res := match o with
  | .inl s => rk (J2 p) J1Z 1 [.bl 0, .sq (.keep [2, 3] J3L)] (X (J2 p) (.lp 4 [0, 2, 3, 5] J1L) ⟨[(0, .ptr 0 0), (2, .ptr 1 0), (3, .ptr 3 0), (5, .p (.i .i64 s.1))], [.box (List.map AV.p (J0 s.2.1)), .box (List.map AV.p (J5 b1)), .arr true 3 (List.map J7 s.2.2), .box [.slr 2 0 (List.length s.2.2)]]⟩)
  | .inr o => J6U o
def J5I (x5 : Int) (b0 : T_pagemenddraw_Codes) (b1 : T_api_Index) (l2 : List T_api_Row) : Option (((Int × T_pagemenddraw_Codes × (List T_api_Row)) ⊕ (T_api_Index × T_pagemenddraw_Codes))) :=
  some (.inl ((IntKind.wrap .i64 (x5 + 1)), b0, l2))
theorem Jcp {x5 : Int} {b0 : T_pagemenddraw_Codes} {b1 : T_api_Index} {l2 : List T_api_Row} {o : ((Int × T_pagemenddraw_Codes × (List T_api_Row)) ⊕ (T_api_Index × T_pagemenddraw_Codes))} (h : J5I x5 b0 b1 l2 = some o) :
    rk (J2 p) J1Z 1 [.lo 4 [0, 2, 3, 5] J1L, .bl 0, .sq (.keep [2, 3] J3L)] (X (J2 p) J9E ⟨[(0, .ptr 0 0), (2, .ptr 1 0), (3, .ptr 3 0), (5, .p (.i .i64 x5))], [.box (List.map AV.p (J0 b0)), .box (List.map AV.p (J5 b1)), .arr true 3 (List.map J7 l2), .box [.slr 2 0 (List.length l2)]]⟩) = (Jcq p b1) o := by
  unfold J5I at h
  obtain rfl := sj h
  try simp only [↓Da, Ua, J9E, ↓reduceIte, Nat.reduceEqDiff, Nat.reduceAdd, Nat.reduceLT, Nat.reduceMul]
  rfl
def J8s (b0 : T_pagemenddraw_Codes) (b1 : T_api_Index) (l2 : List T_api_Row) : Option (T_api_Index × T_pagemenddraw_Codes) :=
  some ((⟨l2⟩ : T_api_Index), b0)
theorem Jit {b0 : T_pagemenddraw_Codes} {b1 : T_api_Index} {l2 : List T_api_Row} {w2 : Bool} {o : T_api_Index × T_pagemenddraw_Codes} (h : J8s b0 b1 l2 = some o) :
    rk (J2 p) J1Z 1 [] (X (J2 p) J3L ⟨[(2, .ptr 1 0), (3, .ptr 3 0)], [.box (List.map AV.p (J0 b0)), .box (List.map AV.p (J5 b1)), .arr w2 3 (List.map J7 l2), .box [.slr 2 0 (List.length l2)]]⟩) = J6U o := by
  unfold J8s at h
  obtain rfl := sj h
  try simp only [↓Da, Ua, J3L, J1, Jl, Jkq, ↓reduceIte, Nat.reduceEqDiff, Nat.reduceAdd, Nat.reduceLT, Nat.reduceMul]
  rfl
def J3J (b1 : T_api_Index) (x5 : Int) (b0 : T_pagemenddraw_Codes) (l2 : List T_api_Row) : Option (((Int × T_pagemenddraw_Codes × (List T_api_Row)) ⊕ (T_api_Index × T_pagemenddraw_Codes))) :=
  if (decide (x5 < (((List.length l2) : Nat) : Int))) then
    Option.bind (Js b0 40) fun r2 =>
    Option.bind (idx l2 x5) fun y6 =>
    Option.bind (some (List.set l2 (Int.toNat x5) (⟨r2.1, y6.Image, y6.ImageLSN⟩ : T_api_Row))) fun m10 =>
    Option.bind (Js r2.2 3) fun r14 =>
    if ((r14.1 : Int) == 0) then
      Option.bind (Js r14.2 4) fun r18 =>
      Option.bind (Js r18.2 40) fun r22 =>
      Option.bind (idx m10 x5) fun y26 =>
      Option.bind (some (List.set m10 (Int.toNat x5) (⟨y26.LSN, (IntKind.wrap .i64 (1 + r18.1)), y26.ImageLSN⟩ : T_api_Row))) fun m30 =>
      Option.bind (idx m30 x5) fun y34 =>
      Option.bind (some (List.set m30 (Int.toNat x5) (⟨y34.LSN, y34.Image, r22.1⟩ : T_api_Row))) fun m38 =>
      J5I x5 r22.2 b1 m38
    else
      J5I x5 r14.2 b1 m10
  else
    Option.map (fun o => .inr o) (J8s b0 b1 l2)
theorem Jcc {b1 : T_api_Index} {x5 : Int} {b0 : T_pagemenddraw_Codes} {l2 : List T_api_Row} {o : ((Int × T_pagemenddraw_Codes × (List T_api_Row)) ⊕ (T_api_Index × T_pagemenddraw_Codes))} (h : J3J b1 x5 b0 l2 = some o) :
    rk (J2 p) J1Z 1 [.lo 4 [0, 2, 3, 5] J1L, .bl 0, .sq (.keep [2, 3] J3L)] (X (J2 p) J1L ⟨[(0, .ptr 0 0), (2, .ptr 1 0), (3, .ptr 3 0), (5, .p (.i .i64 x5))], [.box (List.map AV.p (J0 b0)), .box (List.map AV.p (J5 b1)), .arr true 3 (List.map J7 l2), .box [.slr 2 0 (List.length l2)]]⟩) = (Jcq p b1) o := by
  unfold J3J at h
  rcases Jb h with ⟨h1, h⟩ | ⟨h1, h⟩
  · obtain ⟨r2, h3, h⟩ := bi h
    have f4 : ∀ ws new s, JB ws s [0] [List.map AV.p (J0 b0)] → (Jo (AF (J2 p)) J9 ([.ptr 0 0, .p (.i .i64 40)], ws) 0 new).run s = some ⟨.p (.i .i64 r2.1), ws ++ [(0, .box (List.map AV.p (J0 r2.2)))]⟩ := Jw (args' := [.ptr 0 0, .p (.i .i64 40)]) (bs := [0]) (css := [List.map AV.p (J0 b0)]) (css' := [List.map AV.p (J0 r2.2)]) rfl rfl rfl (by simp [Ji, J6]) (Ju p h3) rfl rfl (by simp [Ji, J6])
    try simp only [Nf, J1, Jp, Jl] at f4
    have f5 : ∀ ws k new s, JB ws s [0] [List.map AV.p (J0 b0)] → Jn ((Jo (AF (J2 p)) J9 ([.ptr 0 0, .p (.i .i64 40)], ws) k new).reads s) = [0] ++ ([0] ++ [0]) := J0Y (args' := [.ptr 0 0, .p (.i .i64 40)]) (bs := [0]) (css := [List.map AV.p (J0 b0)]) rfl rfl rfl (by simp [Ji, J6])
    try simp only [Nf, J1, Jp, Jl] at f5
    obtain ⟨y6, h7, h⟩ := bi h
    have f8 := J7S (r := J7) h7
    try simp only [Nf, J1, Jp, Jl] at f8
    have f9 : (0 ≤ (x5 : Int) ∧ (x5 : Int) < (((List.length l2) : Nat) : Int)) = True := eq_true (by have e0 := Jai h7; (try simp only [List.length_cons, List.length_nil, Nat.zero_add] at e0); omega)
    obtain ⟨m10, h11, h⟩ := bi h
    have f12 : List.set (List.map J7 l2) (Int.toNat x5) (J7 (⟨r2.1, y6.Image, y6.ImageLSN⟩ : T_api_Row)) = List.map J7 m10 := by
      rw [← Option.some.inj h11, List.map_set]
    try simp only [Nf, J1, Jp, Jl] at f12
    have g13 : List.length m10 = List.length l2 := by rw [← Option.some.inj h11, List.length_set]
    obtain ⟨r14, h15, h⟩ := bi h
    have f16 : ∀ ws new s, JB ws s [0] [List.map AV.p (J0 r2.2)] → (Jo (AF (J2 p)) J9 ([.ptr 0 0, .p (.i .i64 3)], ws) 0 new).run s = some ⟨.p (.i .i64 r14.1), ws ++ [(0, .box (List.map AV.p (J0 r14.2)))]⟩ := Jw (args' := [.ptr 0 0, .p (.i .i64 3)]) (bs := [0]) (css := [List.map AV.p (J0 r2.2)]) (css' := [List.map AV.p (J0 r14.2)]) rfl rfl rfl (by simp [Ji, J6]) (Ju p h15) rfl rfl (by simp [Ji, J6])
    try simp only [Nf, J1, Jp, Jl] at f16
    try simp only [↓Da, Ua, Ra, J1L, J1, Jp, Jl, *, ↓reduceIte, Nat.reduceEqDiff, Nat.reduceAdd, Nat.reduceLT, Nat.reduceMul, Nat.reduceBEq]
    rcases Jb h with ⟨h17, h⟩ | ⟨h17, h⟩
    · have h17n : ((r14.1 : Int) != 0) = false := by rw [bne, h17]; rfl
      obtain ⟨r18, h19, h⟩ := bi h
      have f20 : ∀ ws new s, JB ws s [0] [List.map AV.p (J0 r14.2)] → (Jo (AF (J2 p)) J9 ([.ptr 0 0, .p (.i .i64 4)], ws) 0 new).run s = some ⟨.p (.i .i64 r18.1), ws ++ [(0, .box (List.map AV.p (J0 r18.2)))]⟩ := Jw (args' := [.ptr 0 0, .p (.i .i64 4)]) (bs := [0]) (css := [List.map AV.p (J0 r14.2)]) (css' := [List.map AV.p (J0 r18.2)]) rfl rfl rfl (by simp [Ji, J6]) (Ju p h19) rfl rfl (by simp [Ji, J6])
      try simp only [Nf, J1, Jp, Jl] at f20
      have f21 : ∀ ws k new s, JB ws s [0] [List.map AV.p (J0 r14.2)] → Jn ((Jo (AF (J2 p)) J9 ([.ptr 0 0, .p (.i .i64 4)], ws) k new).reads s) = [0] ++ ([0] ++ [0]) := J0Y (args' := [.ptr 0 0, .p (.i .i64 4)]) (bs := [0]) (css := [List.map AV.p (J0 r14.2)]) rfl rfl rfl (by simp [Ji, J6])
      try simp only [Nf, J1, Jp, Jl] at f21
      obtain ⟨r22, h23, h⟩ := bi h
      have f24 : ∀ ws new s, JB ws s [0] [List.map AV.p (J0 r18.2)] → (Jo (AF (J2 p)) J9 ([.ptr 0 0, .p (.i .i64 40)], ws) 0 new).run s = some ⟨.p (.i .i64 r22.1), ws ++ [(0, .box (List.map AV.p (J0 r22.2)))]⟩ := Jw (args' := [.ptr 0 0, .p (.i .i64 40)]) (bs := [0]) (css := [List.map AV.p (J0 r18.2)]) (css' := [List.map AV.p (J0 r22.2)]) rfl rfl rfl (by simp [Ji, J6]) (Ju p h23) rfl rfl (by simp [Ji, J6])
      try simp only [Nf, J1, Jp, Jl] at f24
      have f25 : ∀ ws k new s, JB ws s [0] [List.map AV.p (J0 r18.2)] → Jn ((Jo (AF (J2 p)) J9 ([.ptr 0 0, .p (.i .i64 40)], ws) k new).reads s) = [0] ++ ([0] ++ [0]) := J0Y (args' := [.ptr 0 0, .p (.i .i64 40)]) (bs := [0]) (css := [List.map AV.p (J0 r18.2)]) rfl rfl rfl (by simp [Ji, J6])
      try simp only [Nf, J1, Jp, Jl] at f25
      obtain ⟨y26, h27, h⟩ := bi h
      have f28 := J7S (r := J7) h27
      try simp only [Nf, J1, Jp, Jl] at f28
      have f29 : (0 ≤ (x5 : Int) ∧ (x5 : Int) < (((List.length l2) : Nat) : Int)) = True := eq_true (by have e0 := Jai h27; (try simp only [g13, List.length_cons, List.length_nil, Nat.zero_add] at e0); omega)
      obtain ⟨m30, h31, h⟩ := bi h
      have f32 : List.set (List.map J7 m10) (Int.toNat x5) (J7 (⟨y26.LSN, (IntKind.wrap .i64 (1 + r18.1)), y26.ImageLSN⟩ : T_api_Row)) = List.map J7 m30 := by
        rw [← Option.some.inj h31, List.map_set]
      try simp only [Nf, J1, Jp, Jl] at f32
      have g33 : List.length m30 = List.length m10 := by rw [← Option.some.inj h31, List.length_set]
      obtain ⟨y34, h35, h⟩ := bi h
      have f36 := J7S (r := J7) h35
      try simp only [Nf, J1, Jp, Jl] at f36
      have f37 : (0 ≤ (x5 : Int) ∧ (x5 : Int) < (((List.length l2) : Nat) : Int)) = True := eq_true (by have e0 := Jai h35; (try simp only [g13, g33, List.length_cons, List.length_nil, Nat.zero_add] at e0); omega)
      obtain ⟨m38, h39, h⟩ := bi h
      have f40 : List.set (List.map J7 m30) (Int.toNat x5) (J7 (⟨y34.LSN, y34.Image, r22.1⟩ : T_api_Row)) = List.map J7 m38 := by
        rw [← Option.some.inj h39, List.map_set]
      try simp only [Nf, J1, Jp, Jl] at f40
      have g41 : List.length m38 = List.length m30 := by rw [← Option.some.inj h39, List.length_set]
      try simp only [↓Da, Ua, Ra, J1L, J1, Jp, Jl, *, ↓reduceIte, Nat.reduceEqDiff, Nat.reduceAdd, Nat.reduceLT, Nat.reduceMul, Nat.reduceBEq]
      have e0 := Jcp p h
      try simp only [g13, g33, g41] at e0
      exact e0
    · have h17n : ((r14.1 : Int) != 0) = true := by rw [bne, h17]; rfl
      try simp only [↓Da, Ua, Ra, J1L, J1, Jp, Jl, *, ↓reduceIte, Nat.reduceEqDiff, Nat.reduceAdd, Nat.reduceLT, Nat.reduceMul, Nat.reduceBEq]
      have e0 := Jcp p h
      try simp only [g13] at e0
      exact e0
  · obtain ⟨o', h', rfl⟩ := mi h
    try simp only [↓Da, Ua, Ra, J1L, J1, Jp, Jl, *, ↓reduceIte, Nat.reduceEqDiff, Nat.reduceAdd, Nat.reduceLT, Nat.reduceMul, Nat.reduceBEq]
    have e0 := Jit p (w2 := true) h'
    exact e0
def Jco (b1 : T_api_Index) (s : Int × T_pagemenddraw_Codes × (List T_api_Row)) : Option (T_api_Index × T_pagemenddraw_Codes) :=
  J00 (fun s => J3J b1 s.1 s.2.1 s.2.2) s
theorem Jgy {b1 : T_api_Index} {s : Int × T_pagemenddraw_Codes × (List T_api_Row)} {o : T_api_Index × T_pagemenddraw_Codes} (h : Jco b1 s = some o) :
    rk (J2 p) J1Z 1 [.bl 0, .sq (.keep [2, 3] J3L)] (X (J2 p) (.lp 4 [0, 2, 3, 5] J1L) ⟨[(0, .ptr 0 0), (2, .ptr 1 0), (3, .ptr 3 0), (5, .p (.i .i64 s.1))], [.box (List.map AV.p (J0 s.2.1)), .box (List.map AV.p (J5 b1)), .arr true 3 (List.map J7 s.2.2), .box [.slr 2 0 (List.length s.2.2)]]⟩) = J6U o := by
  have h0 : J00 (fun s => J3J b1 s.1 s.2.1 s.2.2) s = some o := h
  exact J2k (P := fun (s : Int × T_pagemenddraw_Codes × (List T_api_Row)) (o : T_api_Index × T_pagemenddraw_Codes) => rk (J2 p) J1Z 1 [.bl 0, .sq (.keep [2, 3] J3L)] (X (J2 p) (.lp 4 [0, 2, 3, 5] J1L) ⟨[(0, .ptr 0 0), (2, .ptr 1 0), (3, .ptr 3 0), (5, .p (.i .i64 s.1))], [.box (List.map AV.p (J0 s.2.1)), .box (List.map AV.p (J5 b1)), .arr true 3 (List.map J7 s.2.2), .box [.slr 2 0 (List.length s.2.2)]]⟩) = J6U o) (fun s r hs => by rw [J2e]; exact Jcc p hs) (fun s s1 r hs ih => by rw [J2e]; exact (Jcc p hs).trans ih) h0
def J5Q (b0 : T_pagemenddraw_Codes) : Option (T_api_Index × T_pagemenddraw_Codes) :=
  Option.bind (Js b0 5) fun r1 =>
  Option.bind (J3Z (IntKind.wrap .i64 (1 + r1.1))) fun r4 =>
  if ((r4.2 : Int) == 0) then
    Jco (⟨([] : List T_api_Row)⟩ : T_api_Index) (0, r1.2, r4.1.Rows)
  else
    none
theorem JgF {b0 : T_pagemenddraw_Codes} {o : T_api_Index × T_pagemenddraw_Codes} (h : J5Q b0 = some o) :
    rk (J2 p) J1Z 1 [] (X (J2 p) J70 ⟨[(0, .ptr 0 0)], [.box (List.map AV.p (J0 b0))]⟩) = J6U o := by
  unfold J5Q at h
  obtain ⟨r1, h2, h⟩ := bi h
  have f3 : ∀ ws new s, JB ws s [0] [List.map AV.p (J0 b0)] → (Jo (AF (J2 p)) J9 ([.ptr 0 0, .p (.i .i64 5)], ws) 0 new).run s = some ⟨.p (.i .i64 r1.1), ws ++ [(0, .box (List.map AV.p (J0 r1.2)))]⟩ := Jw (args' := [.ptr 0 0, .p (.i .i64 5)]) (bs := [0]) (css := [List.map AV.p (J0 b0)]) (css' := [List.map AV.p (J0 r1.2)]) rfl rfl rfl (by simp [Ji, J6]) (Ju p h2) rfl rfl (by simp [Ji, J6])
  try simp only [Nf, J1, Jp, Jl] at f3
  obtain ⟨r4, h5, h⟩ := bi h
  try simp only [↓Da, Ua, J70, J1, Jp, Jl, *, ↓reduceIte, Nat.reduceEqDiff, Nat.reduceAdd, Nat.reduceLT, Nat.reduceMul]
  rcases Jb h with ⟨h6, h⟩ | ⟨h6, h⟩
  · have h6n : ((r4.2 : Int) != 0) = false := by rw [bne, h6]; rfl
    have f7 := JeC p h5 h6
    try simp only [Nf, J1, Jp, Jl] at f7
    try simp only [↓Da, Ua, J70, J1, Jp, Jl, *, ↓reduceIte, Nat.reduceEqDiff, Nat.reduceAdd, Nat.reduceLT, Nat.reduceMul]
    have e0 := Jgy p h
    exact e0
  · have h6n : ((r4.2 : Int) != 0) = true := by rw [bne, h6]; rfl
    cases h
theorem JkG {b0 : T_pagemenddraw_Codes} {o : T_api_Index × T_pagemenddraw_Codes} (h : J5Q b0 = some o) : AF (J2 p) J6T [.ptr 0 0] [.box (List.map AV.p (J0 b0))] = J6U o :=
  (J0s (J2 p) (JkJ p) rfl).trans (JgF p h)
def JgS  (r : T_api_Index × T_pagemenddraw_Codes) : Option Res := some (.data (J5 r.1), [.box (List.map AV.p (J0 r.2))])
def J8j (b0 : T_pagemenddraw_Codes) (x1 : T_api_Index) : Option (T_api_Index × T_pagemenddraw_Codes) :=
  Option.bind (Jjz 24 x1.Rows) fun u2 =>
  Option.bind (Js b0 (((List.length x1.Rows) : Nat) : Int)) fun r4 =>
  Option.bind (idx x1.Rows r4.1) fun y8 =>
  Option.bind (Js r4.2 4) fun r12 =>
  if ((r12.1 : Int) == 0) then
    Option.bind (J2s r12.2) fun r16 =>
    Option.bind (some (List.set x1.Rows (Int.toNat r4.1) (⟨r16.1, y8.Image, y8.ImageLSN⟩ : T_api_Row))) fun m19 =>
    some ((⟨m19⟩ : T_api_Index), r16.2)
  else
    if ((r12.1 : Int) == 1) then
      Option.bind (J2s r12.2) fun r24 =>
      Option.bind (some (List.set x1.Rows (Int.toNat r4.1) (⟨y8.LSN, r24.1, y8.ImageLSN⟩ : T_api_Row))) fun m27 =>
      some ((⟨m27⟩ : T_api_Index), r24.2)
    else
      if ((r12.1 : Int) == 2) then
        Option.bind (J2s r12.2) fun r32 =>
        Option.bind (some (List.set x1.Rows (Int.toNat r4.1) (⟨y8.LSN, y8.Image, r32.1⟩ : T_api_Row))) fun m35 =>
        some ((⟨m35⟩ : T_api_Index), r32.2)
      else
        if ((r12.1 : Int) == 3) then
          Option.bind (Js r12.2 6) fun r40 =>
          Option.bind (mkS 24 (IntKind.wrap .i64 (60 + r40.1)) (IntKind.wrap .i64 (60 + r40.1)) (⟨0, 0, 0⟩ : T_api_Row)) fun m44 =>
          Option.bind (JcE 24 x1.Rows m44) fun m47 =>
          some ((⟨m47⟩ : T_api_Index), r40.2)
        else
          some ((⟨x1.Rows⟩ : T_api_Index), r12.2)
theorem JiJ {b0 : T_pagemenddraw_Codes} {x1 : T_api_Index} {o : T_api_Index × T_pagemenddraw_Codes} (h : J8j b0 x1 = some o) :
    rk (J2 p) J87 1 [] (X (J2 p) J2J ⟨[(0, .ptr 0 0), (1, .data (J5 x1))], [.box (List.map AV.p (J0 b0))]⟩) = JgS o := by
  unfold J8j at h
  obtain ⟨u2, h3, h⟩ := bi h
  have f1 := (Jlk h3).1
  try simp only [Nf, J1, Jp, Jl] at f1
  obtain ⟨r4, h5, h⟩ := bi h
  have f6 : ∀ ws new s, JB ws s [0] [List.map AV.p (J0 b0)] → (Jo (AF (J2 p)) J9 ([.ptr 0 0, .p (.i .i64 (((List.length x1.Rows) : Nat) : Int))], ws) 0 new).run s = some ⟨.p (.i .i64 r4.1), ws ++ [(0, .box (List.map AV.p (J0 r4.2)))]⟩ := Jw (args' := [.ptr 0 0, .p (.i .i64 (((List.length x1.Rows) : Nat) : Int))]) (bs := [0]) (css := [List.map AV.p (J0 b0)]) (css' := [List.map AV.p (J0 r4.2)]) rfl rfl rfl (by simp [Ji, J6]) (Ju p h5) rfl rfl (by simp [Ji, J6])
  try simp only [Nf, J1, Jp, Jl] at f6
  have f7 : ∀ ws k new s, JB ws s [0] [List.map AV.p (J0 b0)] → Jn ((Jo (AF (J2 p)) J9 ([.ptr 0 0, .p (.i .i64 (((List.length x1.Rows) : Nat) : Int))], ws) k new).reads s) = [0] ++ ([0] ++ [0]) := J0Y (args' := [.ptr 0 0, .p (.i .i64 (((List.length x1.Rows) : Nat) : Int))]) (bs := [0]) (css := [List.map AV.p (J0 b0)]) rfl rfl rfl (by simp [Ji, J6])
  try simp only [Nf, J1, Jp, Jl] at f7
  obtain ⟨y8, h9, h⟩ := bi h
  have f10 := J7S (r := J7) h9
  try simp only [Nf, J1, Jp, Jl] at f10
  have f11 : (0 ≤ (r4.1 : Int) ∧ (r4.1 : Int) < (((List.length x1.Rows) : Nat) : Int)) = True := eq_true (by have e0 := Jai h9; (try simp only [List.length_cons, List.length_nil, Nat.zero_add] at e0); omega)
  obtain ⟨r12, h13, h⟩ := bi h
  have f14 : ∀ ws new s, JB ws s [0] [List.map AV.p (J0 r4.2)] → (Jo (AF (J2 p)) J9 ([.ptr 0 0, .p (.i .i64 4)], ws) 0 new).run s = some ⟨.p (.i .i64 r12.1), ws ++ [(0, .box (List.map AV.p (J0 r12.2)))]⟩ := Jw (args' := [.ptr 0 0, .p (.i .i64 4)]) (bs := [0]) (css := [List.map AV.p (J0 r4.2)]) (css' := [List.map AV.p (J0 r12.2)]) rfl rfl rfl (by simp [Ji, J6]) (Ju p h13) rfl rfl (by simp [Ji, J6])
  try simp only [Nf, J1, Jp, Jl] at f14
  try simp only [↓Da, Ua, Ra, J2J, J1, Jp, Jl, *, ↓reduceIte, Nat.reduceEqDiff, Nat.reduceAdd, Nat.reduceLT, Nat.reduceMul, Nat.reduceBEq]
  rcases Jb h with ⟨h15, h⟩ | ⟨h15, h⟩
  · have h15n : ((r12.1 : Int) != 0) = false := by rw [bne, h15]; rfl
    obtain ⟨r16, h17, h⟩ := bi h
    have f18 : ∀ ws new s, JB ws s [0] [List.map AV.p (J0 r12.2)] → (Jo (AF (J2 p)) J1S ([.ptr 0 0], ws) 0 new).run s = some ⟨.p (.i .i64 r16.1), ws ++ [(0, .box (List.map AV.p (J0 r16.2)))]⟩ := Jw (args' := [.ptr 0 0]) (bs := [0]) (css := [List.map AV.p (J0 r12.2)]) (css' := [List.map AV.p (J0 r16.2)]) rfl rfl rfl (by simp [Ji, J6]) (J9q p h17) rfl rfl (by simp [Ji, J6])
    try simp only [Nf, J1, Jp, Jl] at f18
    obtain ⟨m19, h20, h⟩ := bi h
    have f21 : List.set (List.map J7 x1.Rows) (Int.toNat r4.1) (J7 (⟨r16.1, y8.Image, y8.ImageLSN⟩ : T_api_Row)) = List.map J7 m19 := by
      rw [← Option.some.inj h20, List.map_set]
    try simp only [Nf, J1, Jp, Jl] at f21
    have g22 : List.length m19 = List.length x1.Rows := by rw [← Option.some.inj h20, List.length_set]
    obtain rfl := sj h
    try simp only [↓Da, Ua, Ra, J2J, J1, Jp, Jl, J9b, *, ↓reduceIte, Nat.reduceEqDiff, Nat.reduceAdd, Nat.reduceLT, Nat.reduceMul, Nat.reduceBEq]
    rfl
  · have h15n : ((r12.1 : Int) != 0) = true := by rw [bne, h15]; rfl
    try simp only [↓Da, Ua, Ra, J2J, J1, Jp, Jl, *, ↓reduceIte, Nat.reduceEqDiff, Nat.reduceAdd, Nat.reduceLT, Nat.reduceMul, Nat.reduceBEq]
    rcases Jb h with ⟨h23, h⟩ | ⟨h23, h⟩
    · have h23n : ((r12.1 : Int) != 1) = false := by rw [bne, h23]; rfl
      obtain ⟨r24, h25, h⟩ := bi h
      have f26 : ∀ ws new s, JB ws s [0] [List.map AV.p (J0 r12.2)] → (Jo (AF (J2 p)) J1S ([.ptr 0 0], ws) 0 new).run s = some ⟨.p (.i .i64 r24.1), ws ++ [(0, .box (List.map AV.p (J0 r24.2)))]⟩ := Jw (args' := [.ptr 0 0]) (bs := [0]) (css := [List.map AV.p (J0 r12.2)]) (css' := [List.map AV.p (J0 r24.2)]) rfl rfl rfl (by simp [Ji, J6]) (J9q p h25) rfl rfl (by simp [Ji, J6])
      try simp only [Nf, J1, Jp, Jl] at f26
      obtain ⟨m27, h28, h⟩ := bi h
      have f29 : List.set (List.map J7 x1.Rows) (Int.toNat r4.1) (J7 (⟨y8.LSN, r24.1, y8.ImageLSN⟩ : T_api_Row)) = List.map J7 m27 := by
        rw [← Option.some.inj h28, List.map_set]
      try simp only [Nf, J1, Jp, Jl] at f29
      have g30 : List.length m27 = List.length x1.Rows := by rw [← Option.some.inj h28, List.length_set]
      obtain rfl := sj h
      try simp only [↓Da, Ua, Ra, J2J, J1, Jp, Jl, J9b, *, ↓reduceIte, Nat.reduceEqDiff, Nat.reduceAdd, Nat.reduceLT, Nat.reduceMul, Nat.reduceBEq]
      rfl
    · have h23n : ((r12.1 : Int) != 1) = true := by rw [bne, h23]; rfl
      try simp only [↓Da, Ua, Ra, J2J, J1, Jp, Jl, *, ↓reduceIte, Nat.reduceEqDiff, Nat.reduceAdd, Nat.reduceLT, Nat.reduceMul, Nat.reduceBEq]
      rcases Jb h with ⟨h31, h⟩ | ⟨h31, h⟩
      · have h31n : ((r12.1 : Int) != 2) = false := by rw [bne, h31]; rfl
        obtain ⟨r32, h33, h⟩ := bi h
        have f34 : ∀ ws new s, JB ws s [0] [List.map AV.p (J0 r12.2)] → (Jo (AF (J2 p)) J1S ([.ptr 0 0], ws) 0 new).run s = some ⟨.p (.i .i64 r32.1), ws ++ [(0, .box (List.map AV.p (J0 r32.2)))]⟩ := Jw (args' := [.ptr 0 0]) (bs := [0]) (css := [List.map AV.p (J0 r12.2)]) (css' := [List.map AV.p (J0 r32.2)]) rfl rfl rfl (by simp [Ji, J6]) (J9q p h33) rfl rfl (by simp [Ji, J6])
        try simp only [Nf, J1, Jp, Jl] at f34
        obtain ⟨m35, h36, h⟩ := bi h
        have f37 : List.set (List.map J7 x1.Rows) (Int.toNat r4.1) (J7 (⟨y8.LSN, y8.Image, r32.1⟩ : T_api_Row)) = List.map J7 m35 := by
          rw [← Option.some.inj h36, List.map_set]
        try simp only [Nf, J1, Jp, Jl] at f37
        have g38 : List.length m35 = List.length x1.Rows := by rw [← Option.some.inj h36, List.length_set]
        obtain rfl := sj h
        try simp only [↓Da, Ua, Ra, J2J, J1, Jp, Jl, J9b, *, ↓reduceIte, Nat.reduceEqDiff, Nat.reduceAdd, Nat.reduceLT, Nat.reduceMul, Nat.reduceBEq]
        rfl
      · have h31n : ((r12.1 : Int) != 2) = true := by rw [bne, h31]; rfl
        try simp only [↓Da, Ua, Ra, J2J, J1, Jp, Jl, *, ↓reduceIte, Nat.reduceEqDiff, Nat.reduceAdd, Nat.reduceLT, Nat.reduceMul, Nat.reduceBEq]
        rcases Jb h with ⟨h39, h⟩ | ⟨h39, h⟩
        · have h39n : ((r12.1 : Int) != 3) = false := by rw [bne, h39]; rfl
          obtain ⟨r40, h41, h⟩ := bi h
          have f42 : ∀ ws new s, JB ws s [0] [List.map AV.p (J0 r12.2)] → (Jo (AF (J2 p)) J9 ([.ptr 0 0, .p (.i .i64 6)], ws) 0 new).run s = some ⟨.p (.i .i64 r40.1), ws ++ [(0, .box (List.map AV.p (J0 r40.2)))]⟩ := Jw (args' := [.ptr 0 0, .p (.i .i64 6)]) (bs := [0]) (css := [List.map AV.p (J0 r12.2)]) (css' := [List.map AV.p (J0 r40.2)]) rfl rfl rfl (by simp [Ji, J6]) (Ju p h41) rfl rfl (by simp [Ji, J6])
          try simp only [Nf, J1, Jp, Jl] at f42
          have f43 : ∀ ws k new s, JB ws s [0] [List.map AV.p (J0 r12.2)] → Jn ((Jo (AF (J2 p)) J9 ([.ptr 0 0, .p (.i .i64 6)], ws) k new).reads s) = [0] ++ ([0] ++ [0]) := J0Y (args' := [.ptr 0 0, .p (.i .i64 6)]) (bs := [0]) (css := [List.map AV.p (J0 r12.2)]) rfl rfl rfl (by simp [Ji, J6])
          try simp only [Nf, J1, Jp, Jl] at f43
          obtain ⟨m44, h45, h⟩ := bi h
          have f46 : zrs 3 (J7 (⟨0, 0, 0⟩ : T_api_Row)) (.p (.i .i64 (IntKind.wrap .i64 (60 + r40.1)))) = some (.p (.sl 3 (List.map J7 m44))) := Jtf J7 h45
          try simp only [Nf, J1, Jp, Jl] at f46
          obtain ⟨m47, h48, h⟩ := bi h
          have f49 : ∀ s : St, s.sto[3]? = some (.arr true 3 (List.map J7 x1.Rows)) → (J0n 3 (.p (.sl 3 (List.map J7 m44)))).run s = some (List.map J7 m44) → (J7j 3 24 (.slr 3 0 (List.length x1.Rows)) (.p (.sl 3 (List.map J7 m44)))).run s = some ⟨.slr 3 0 (List.length m47), [(3, .arr true 3 (List.map J7 m47))]⟩ := by
            intro s e1 e2; have e3 := Jg7 h48 e1 e2; try simp only [List.length_cons, List.length_nil, Nat.zero_add] at e3
            exact e3
          try simp only [Nf, J1, Jp, Jl] at f49
          obtain rfl := sj h
          try simp only [↓Da, Ua, Ra, J2J, J1, Jp, Jl, J9b, *, ↓reduceIte, Nat.reduceEqDiff, Nat.reduceAdd, Nat.reduceLT, Nat.reduceMul, Nat.reduceBEq]
          rfl
        · have h39n : ((r12.1 : Int) != 3) = true := by rw [bne, h39]; rfl
          obtain rfl := sj h
          try simp only [↓Da, Ua, Ra, J2J, J1, Jp, Jl, J9b, *, ↓reduceIte, Nat.reduceEqDiff, Nat.reduceAdd, Nat.reduceLT, Nat.reduceMul, Nat.reduceBEq]
          rfl
theorem JmJ {b0 : T_pagemenddraw_Codes} {x1 : T_api_Index} {o : T_api_Index × T_pagemenddraw_Codes} (h : J8j b0 x1 = some o) : AF (J2 p) J7l [.ptr 0 0, .data (J5 x1)] [.box (List.map AV.p (J0 b0))] = JgS o :=
  (J0s (J2 p) (JmT p) rfl).trans (JiJ p h)
end
end Go.Am
end
section
namespace Go.Am
set_option maxRecDepth 8000
set_option maxHeartbeats 4000000
set_option linter.unusedSimpArgs false
set_option linter.unusedVariables false
noncomputable section
variable (p : FuncId → Option (List AV → List Blk → Option Res))
def JX  (r : Int) : Option Res := some (.p (.i .i64 r), [])
def J59 (x0 : List T_api_Row) (x7 : Int) (o : (Int) ⊕ (Int)) : Option Res := match o with
  | .inl s => rk (J2 p) JS 0 [.bl 0, .sq (.keep [] J0o)] (X (J2 p) (.lp 0 [0, 1, 7, 8] JU) ⟨[(0, .p (.sl 3 (List.map J7 x0))), (1, .fn JW [] []), (7, .p (.i .i64 x7)), (8, .p (.i .i64 s))], []⟩)
  | .inr o => JX o
def J04  : Option (Int) :=
  some (-1)
theorem J5h  {o : Int} (h : J04 = some o) :
    rk (J2 p) JS 0 [] (X (J2 p) J0o ⟨[], []⟩) = JX o := by
  unfold J04 at h
  obtain rfl := sj h
  try simp only [↓Da, Ua, J0o, J63, ↓reduceIte, Nat.reduceEqDiff, Nat.reduceAdd, Nat.reduceLT, Nat.reduceMul]
  rfl
def JA (x0 : List T_api_Row) (x7 : Int) (x8 : Int) : Option (((Int) ⊕ (Int))) :=
  if (decide (x8 < x7)) then
    Option.bind (idx x0 x8) fun y2 =>
    Option.bind (J1n y2) fun r5 =>
    if r5 then
      some (.inr x8)
    else
      some (.inl (IntKind.wrap .i64 (x8 + 1)))
  else
    Option.map (fun o => .inr o) (J04)
theorem J20 {x0 : List T_api_Row} {x7 : Int} {x8 : Int} {o : ((Int) ⊕ (Int))} (h : JA x0 x7 x8 = some o) :
    rk (J2 p) JS 0 [.lo 0 [0, 1, 7, 8] JU, .bl 0, .sq (.keep [] J0o)] (X (J2 p) JU ⟨[(0, .p (.sl 3 (List.map J7 x0))), (1, .fn JW [] []), (7, .p (.i .i64 x7)), (8, .p (.i .i64 x8))], []⟩) = (J59 p x0 x7) o := by
  unfold JA at h
  rcases Jb h with ⟨h1, h⟩ | ⟨h1, h⟩
  · obtain ⟨y2, h3, h⟩ := bi h
    have f4 := J2R (r := J7) h3
    try simp only [Nf] at f4
    obtain ⟨r5, h6, h⟩ := bi h
    have f7 := Jeg p h6
    try simp only [Nf] at f7
    try simp only [↓Da, Ua, JU, Je, *, ↓reduceIte, Nat.reduceEqDiff, Nat.reduceAdd, Nat.reduceLT, Nat.reduceMul]
    rcases Jb h with ⟨h8, h⟩ | ⟨h8, h⟩
    · obtain rfl := sj h
      try simp only [↓Da, Ua, JU, Je, J63, *, ↓reduceIte, Nat.reduceEqDiff, Nat.reduceAdd, Nat.reduceLT, Nat.reduceMul]
      rfl
    · obtain rfl := sj h
      try simp only [↓Da, Ua, JU, Je, *, ↓reduceIte, Nat.reduceEqDiff, Nat.reduceAdd, Nat.reduceLT, Nat.reduceMul]
      rfl
  · obtain ⟨o', h', rfl⟩ := mi h
    try simp only [↓Da, Ua, JU, Je, *, ↓reduceIte, Nat.reduceEqDiff, Nat.reduceAdd, Nat.reduceLT, Nat.reduceMul]
    have e0 := J5h p h'
    exact e0
def J21 (x0 : List T_api_Row) (x7 : Int) (s : Int) : Option (Int) :=
  J00 (fun s => JA x0 x7 s) s
theorem J51 {x0 : List T_api_Row} {x7 : Int} {s : Int} {o : Int} (h : J21 x0 x7 s = some o) :
    rk (J2 p) JS 0 [.bl 0, .sq (.keep [] J0o)] (X (J2 p) (.lp 0 [0, 1, 7, 8] JU) ⟨[(0, .p (.sl 3 (List.map J7 x0))), (1, .fn JW [] []), (7, .p (.i .i64 x7)), (8, .p (.i .i64 s))], []⟩) = JX o := by
  have h0 : J00 (fun s => JA x0 x7 s) s = some o := h
  exact J2k (P := fun (s : Int) (o : Int) => rk (J2 p) JS 0 [.bl 0, .sq (.keep [] J0o)] (X (J2 p) (.lp 0 [0, 1, 7, 8] JU) ⟨[(0, .p (.sl 3 (List.map J7 x0))), (1, .fn JW [] []), (7, .p (.i .i64 x7)), (8, .p (.i .i64 s))], []⟩) = JX o) (fun s r hs => by rw [J2e]; exact J20 p hs) (fun s s1 r hs ih => by rw [J2e]; exact (J20 p hs).trans ih) h0
def JY (x0 : List T_api_Row) : Option (Int) :=
  J21 x0 ((List.length x0 : Nat) : Int) 0
theorem J50 {x0 : List T_api_Row} {o : Int} (h : JY x0 = some o) :
    rk (J2 p) JS 0 [] (X (J2 p) J1i ⟨[(0, .p (.sl 3 (List.map J7 x0))), (1, .fn JW [] [])], []⟩) = JX o := by
  unfold JY at h
  try simp only [↓Da, Ua, J1i, Je, ↓reduceIte, Nat.reduceEqDiff, Nat.reduceAdd, Nat.reduceLT, Nat.reduceMul]
  have e0 := J51 p h
  exact e0
theorem J5D {x0 : List T_api_Row} {o : Int} (h : JY x0 = some o) : AF (J2 p) J0L [.p (.sl 3 (List.map J7 x0)), .fn JW [] []] [] = JX o :=
  (J0s (J2 p) (J94 p) rfl).trans (J50 p h)
def J1W  (r : Bool) : Option Res := some (.p (.b r), [])
def JT (x0 : List T_api_Row) : Option (Bool) :=
  Option.bind (JY x0) fun r1 =>
  some (decide (r1 ≥ 0))
theorem J4v {x0 : List T_api_Row} {o : Bool} (h : JT x0 = some o) :
    rk (J2 p) J0y 0 [] (X (J2 p) J0X ⟨[(0, .p (.sl 3 (List.map J7 x0))), (1, .fn JW [] [])], []⟩) = J1W o := by
  unfold JT at h
  obtain ⟨r1, h2, h⟩ := bi h
  have f3 : ∀ ws new s, (Jo (AF (J2 p)) J0L ([.p (.sl 3 (List.map J7 x0)), .fn JW [] []], ws) 0 new).run s = some ⟨.p (.i .i64 r1), ws⟩ := fun ws new s => (Jw (args' := [.p (.sl 3 (List.map J7 x0)), .fn JW [] []]) (bs := []) (css := []) (css' := []) rfl rfl rfl rfl (J5D p h2) rfl rfl rfl ws new s trivial).trans (by simp)
  try simp only [Nf] at f3
  obtain rfl := sj h
  try simp only [↓Da, Ua, J0X, Je, J8x, *, ↓reduceIte, Nat.reduceEqDiff, Nat.reduceAdd, Nat.reduceLT, Nat.reduceMul]
  rfl
theorem J53 {x0 : List T_api_Row} {o : Bool} (h : JT x0 = some o) : AF (J2 p) J0z [.p (.sl 3 (List.map J7 x0)), .fn JW [] []] [] = J1W o :=
  (J0s (J2 p) (J8v p) rfl).trans (J4v p h)
def Jb0  (r : Bool) : Option Res := some (.p (.b r), [])
def J0J (x0 : T_api_Index) : Option (Bool) :=
  if (decide (((List.length x0.Rows : Nat) : Int) ≥ 1)) then
    if (decide (((List.length x0.Rows : Nat) : Int) ≤ 64)) then
      Option.bind (JT x0.Rows) fun r3 =>
      some (!r3)
    else
      some false
  else
    some false
theorem Jdl {x0 : T_api_Index} {o : Bool} (h : J0J x0 = some o) :
    rk (J2 p) J4L 0 [] (X (J2 p) J2U ⟨[(0, .data (J5 x0))], []⟩) = Jb0 o := by
  unfold J0J at h
  rcases Jb h with ⟨h1, h⟩ | ⟨h1, h⟩
  · try simp only [↓Da, Ua, J2U, J1, Je, *, ↓reduceIte, Nat.reduceEqDiff, Nat.reduceAdd, Nat.reduceLT, Nat.reduceMul]
    rcases Jb h with ⟨h2, h⟩ | ⟨h2, h⟩
    · obtain ⟨r3, h4, h⟩ := bi h
      have f5 : ∀ ws new s, (Jo (AF (J2 p)) J0z ([.p (.sl 3 (List.map J7 x0.Rows)), .fn JW [] []], ws) 0 new).run s = some ⟨.p (.b r3), ws⟩ := fun ws new s => (Jw (args' := [.p (.sl 3 (List.map J7 x0.Rows)), .fn JW [] []]) (bs := []) (css := []) (css' := []) rfl rfl rfl rfl (J53 p h4) rfl rfl rfl ws new s trivial).trans (by simp)
      try simp only [Nf, J1] at f5
      obtain rfl := sj h
      try simp only [↓Da, Ua, J2U, J1, Je, J97, *, ↓reduceIte, Nat.reduceEqDiff, Nat.reduceAdd, Nat.reduceLT, Nat.reduceMul]
      rfl
    · obtain rfl := sj h
      try simp only [↓Da, Ua, J2U, J1, Je, J97, *, ↓reduceIte, Nat.reduceEqDiff, Nat.reduceAdd, Nat.reduceLT, Nat.reduceMul]
      rfl
  · obtain rfl := sj h
    try simp only [↓Da, Ua, J2U, J1, Je, J97, *, ↓reduceIte, Nat.reduceEqDiff, Nat.reduceAdd, Nat.reduceLT, Nat.reduceMul]
    rfl
theorem Jgt {x0 : T_api_Index} {o : Bool} (h : J0J x0 = some o) : AF (J2 p) J1j [.data (J5 x0)] [] = Jb0 o :=
  (J0s (J2 p) (JgG p) rfl).trans (Jdl p h)
theorem J62 {x0 : T_api_Index} {o : Bool} (h : J0J x0 = some o) : ∀ ws new st, (Jo (AF (J2 p)) J1j ([.data (J5 x0)], ws) 0 new).run st = some ⟨.p (.b o), ws⟩ := JN rfl (Jgt p h) rfl
def J6I  (r : Bool) : Option Res := some (.p (.b r), [])
def JiF (b0 : T_api_Index) (o : (Int) ⊕ (Bool)) : Option Res := match o with
  | .inl s => rk (J2 p) J2x 0 [.bl 0, .td 1 [2], .sq (.keep [] J4y)] (X (J2 p) (.lp 1 [1, 3] J0r) ⟨[(1, .ptr 0 0), (3, .p (.i .i64 s))], [.box (List.map AV.p (J5 b0))]⟩)
  | .inr o => J6I o
def J8t  : Option (Bool) :=
  some true
theorem JiD {B0 : List PV} {o : Bool} (h : J8t = some o) :
    rk (J2 p) J2x 0 [] (X (J2 p) J4y ⟨[], [.box (List.map AV.p B0)]⟩) = J6I o := by
  unfold J8t at h
  obtain rfl := sj h
  try simp only [↓Da, Ua, J4y, J5M, ↓reduceIte, Nat.reduceEqDiff, Nat.reduceAdd, Nat.reduceLT, Nat.reduceMul]
  rfl
def J4A (b0 : T_api_Index) (x3 : Int) : Option (((Int) ⊕ (Bool))) :=
  if (decide (x3 < ((List.length b0.Rows : Nat) : Int))) then
    Option.bind (idx b0.Rows x3) fun y2 =>
    Option.bind (J4w y2.LSN) fun r5 =>
    if r5 then
      Option.bind (J4w y2.Image) fun r9 =>
      if r9 then
        Option.bind (J4w y2.ImageLSN) fun r13 =>
        if r13 then
          if ((y2.Image : Int) == 0) then
            if ((y2.ImageLSN : Int) != 0) then
              some (.inr false)
            else
              some (.inl (IntKind.wrap .i64 (x3 + 1)))
          else
            some (.inl (IntKind.wrap .i64 (x3 + 1)))
        else
          some (.inr false)
      else
        some (.inr false)
    else
      some (.inr false)
  else
    Option.map (fun o => .inr o) (J8t)
theorem Jcg {b0 : T_api_Index} {x3 : Int} {o : ((Int) ⊕ (Bool))} (h : J4A b0 x3 = some o) :
    rk (J2 p) J2x 0 [.lo 1 [1, 3] J0r, .bl 0, .td 1 [2], .sq (.keep [] J4y)] (X (J2 p) J0r ⟨[(1, .ptr 0 0), (3, .p (.i .i64 x3))], [.box (List.map AV.p (J5 b0))]⟩) = (JiF p b0) o := by
  unfold J4A at h
  rcases Jb h with ⟨h1, h⟩ | ⟨h1, h⟩
  · obtain ⟨y2, h3, h⟩ := bi h
    have f4 := J2R (r := J7) h3
    try simp only [Nf, J1] at f4
    obtain ⟨r5, h6, h⟩ := bi h
    have f7 := J9a p h6
    try simp only [Nf, J1] at f7
    try simp only [↓Da, Ua, J0r, J1, Je, *, ↓reduceIte, Nat.reduceEqDiff, Nat.reduceAdd, Nat.reduceLT, Nat.reduceMul]
    rcases Jb h with ⟨h8, h⟩ | ⟨h8, h⟩
    · obtain ⟨r9, h10, h⟩ := bi h
      have f11 := J9a p h10
      try simp only [Nf, J1] at f11
      try simp only [↓Da, Ua, J0r, J1, Je, *, ↓reduceIte, Nat.reduceEqDiff, Nat.reduceAdd, Nat.reduceLT, Nat.reduceMul]
      rcases Jb h with ⟨h12, h⟩ | ⟨h12, h⟩
      · obtain ⟨r13, h14, h⟩ := bi h
        have f15 := J9a p h14
        try simp only [Nf, J1] at f15
        try simp only [↓Da, Ua, J0r, J1, Je, *, ↓reduceIte, Nat.reduceEqDiff, Nat.reduceAdd, Nat.reduceLT, Nat.reduceMul]
        rcases Jb h with ⟨h16, h⟩ | ⟨h16, h⟩
        · try simp only [↓Da, Ua, J0r, J1, Je, *, ↓reduceIte, Nat.reduceEqDiff, Nat.reduceAdd, Nat.reduceLT, Nat.reduceMul]
          rcases Jb h with ⟨h17, h⟩ | ⟨h17, h⟩
          · have h17n : ((y2.Image : Int) != 0) = false := by rw [bne, h17]; rfl
            try simp only [↓Da, Ua, J0r, J1, Je, *, ↓reduceIte, Nat.reduceEqDiff, Nat.reduceAdd, Nat.reduceLT, Nat.reduceMul]
            rcases Jb h with ⟨h18, h⟩ | ⟨h18, h⟩
            · obtain rfl := sj h
              try simp only [↓Da, Ua, J0r, J1, Je, J5M, *, ↓reduceIte, Nat.reduceEqDiff, Nat.reduceAdd, Nat.reduceLT, Nat.reduceMul]
              rfl
            · obtain rfl := sj h
              try simp only [↓Da, Ua, J0r, J1, Je, *, ↓reduceIte, Nat.reduceEqDiff, Nat.reduceAdd, Nat.reduceLT, Nat.reduceMul]
              rfl
          · have h17n : ((y2.Image : Int) != 0) = true := by rw [bne, h17]; rfl
            obtain rfl := sj h
            try simp only [↓Da, Ua, J0r, J1, Je, *, ↓reduceIte, Nat.reduceEqDiff, Nat.reduceAdd, Nat.reduceLT, Nat.reduceMul]
            rfl
        · obtain rfl := sj h
          try simp only [↓Da, Ua, J0r, J1, Je, J5M, *, ↓reduceIte, Nat.reduceEqDiff, Nat.reduceAdd, Nat.reduceLT, Nat.reduceMul]
          rfl
      · obtain rfl := sj h
        try simp only [↓Da, Ua, J0r, J1, Je, J5M, *, ↓reduceIte, Nat.reduceEqDiff, Nat.reduceAdd, Nat.reduceLT, Nat.reduceMul]
        rfl
    · obtain rfl := sj h
      try simp only [↓Da, Ua, J0r, J1, Je, J5M, *, ↓reduceIte, Nat.reduceEqDiff, Nat.reduceAdd, Nat.reduceLT, Nat.reduceMul]
      rfl
  · obtain ⟨o', h', rfl⟩ := mi h
    try simp only [↓Da, Ua, J0r, J1, Je, *, ↓reduceIte, Nat.reduceEqDiff, Nat.reduceAdd, Nat.reduceLT, Nat.reduceMul]
    have e0 := JiD p (B0 := (J5 b0)) h'
    exact e0
def J9T (b0 : T_api_Index) (s : Int) : Option (Bool) :=
  J00 (fun s => J4A b0 s) s
theorem Jgr {b0 : T_api_Index} {s : Int} {o : Bool} (h : J9T b0 s = some o) :
    rk (J2 p) J2x 0 [.bl 0, .td 1 [2], .sq (.keep [] J4y)] (X (J2 p) (.lp 1 [1, 3] J0r) ⟨[(1, .ptr 0 0), (3, .p (.i .i64 s))], [.box (List.map AV.p (J5 b0))]⟩) = J6I o := by
  have h0 : J00 (fun s => J4A b0 s) s = some o := h
  exact J2k (P := fun (s : Int) (o : Bool) => rk (J2 p) J2x 0 [.bl 0, .td 1 [2], .sq (.keep [] J4y)] (X (J2 p) (.lp 1 [1, 3] J0r) ⟨[(1, .ptr 0 0), (3, .p (.i .i64 s))], [.box (List.map AV.p (J5 b0))]⟩) = J6I o) (fun s r hs => by rw [J2e]; exact Jcg p hs) (fun s s1 r hs ih => by rw [J2e]; exact (Jcg p hs).trans ih) h0
def J2B (x0 : T_api_Index) : Option (Bool) :=
  if (decide (((List.length x0.Rows : Nat) : Int) < 1)) then
    some false
  else
    if (decide (((List.length x0.Rows : Nat) : Int) > 64)) then
      some false
    else
      J9T x0 0
theorem JgL {x0 : T_api_Index} {o : Bool} (h : J2B x0 = some o) :
    rk (J2 p) J2x 0 [] (X (J2 p) J4Y ⟨[(0, .data (J5 x0))], []⟩) = J6I o := by
  unfold J2B at h
  rcases Jb h with ⟨h1, h⟩ | ⟨h1, h⟩
  · obtain rfl := sj h
    try simp only [↓Da, Ua, J4Y, J1, Je, J5M, *, ↓reduceIte, Nat.reduceEqDiff, Nat.reduceAdd, Nat.reduceLT, Nat.reduceMul]
    rfl
  · try simp only [↓Da, Ua, J4Y, J1, Je, *, ↓reduceIte, Nat.reduceEqDiff, Nat.reduceAdd, Nat.reduceLT, Nat.reduceMul]
    rcases Jb h with ⟨h2, h⟩ | ⟨h2, h⟩
    · obtain rfl := sj h
      try simp only [↓Da, Ua, J4Y, J1, Je, J5M, *, ↓reduceIte, Nat.reduceEqDiff, Nat.reduceAdd, Nat.reduceLT, Nat.reduceMul]
      rfl
    · try simp only [↓Da, Ua, J4Y, J1, Je, *, ↓reduceIte, Nat.reduceEqDiff, Nat.reduceAdd, Nat.reduceLT, Nat.reduceMul]
      have e0 := Jgr p h
      exact e0
theorem Jkp {x0 : T_api_Index} {o : Bool} (h : J2B x0 = some o) : AF (J2 p) J2A [.data (J5 x0)] [] = J6I o :=
  (J0s (J2 p) (JkQ p) rfl).trans (JgL p h)
theorem J85 {x0 : T_api_Index} {o : Bool} (h : J2B x0 = some o) : ∀ ws new st, (Jo (AF (J2 p)) J2A ([.data (J5 x0)], ws) 0 new).run st = some ⟨.p (.b o), ws⟩ := JN rfl (Jkp p h) rfl
def J9x (b0 : List UInt8) (r : Int) : Option Res := some (.p (.i .i64 r), [.box [.p (.s b0)]])
def J0e (x0 : Int) (x1 : Int) (b0 : List UInt8) : Option (Int) :=
  Option.bind (J0Q b0 (IntKind.wrap .i64 ((IntKind.wrap .i64 (2 + (IntKind.wrap .i64 (x0 * 24)))) + (IntKind.wrap .i64 (x1 * 8)))) 8) fun r1 =>
  some r1.1
theorem Jb8 {x0 : Int} {x1 : Int} {b0 : List UInt8} {o : Int} (h : J0e x0 x1 b0 = some o) :
    rk (J2 p) J31 1 [] (X (J2 p) J4l ⟨[(0, .p (.i .i64 x0)), (1, .p (.i .i64 x1)), (2, .ptr 0 0)], [.box [.p (.s b0)]]⟩) = (J9x b0) o := by
  unfold J0e at h
  obtain ⟨r1, h2, h⟩ := bi h
  have f3 := JgZ p h2
  try simp only [Nf] at f3
  obtain rfl := sj h
  try simp only [↓Da, Ua, J4l, Jda, *, ↓reduceIte, Nat.reduceEqDiff, Nat.reduceAdd, Nat.reduceLT, Nat.reduceMul]
  rfl
theorem J7L {x0 : Int} {x1 : Int} {b0 : List UInt8} {o : Int} (h : J0e x0 x1 b0 = some o) : AF (J2 p) J05 [.p (.i .i64 x0), .p (.i .i64 x1), .ptr 0 0] [.box [.p (.s b0)]] = (J9x b0) o :=
  (J0s (J2 p) (Jdo p) rfl).trans (Jb8 p h)
def J4r  (r : T_api_Index × Int) : Option Res := some (.tup [.data (J5 r.1), .p (.i .i64 r.2)], [])
def JdO (x35 : Int) (b0 : List UInt8) (l1 : List T_api_Row) (w1 : Bool) (w3 : Bool) (o : (Int × (List T_api_Row)) ⊕ (T_api_Index × Int)) : Option Res := match o with
  | .inl s => rk (J2 p) J17 0 [.bl 1, .sq (.keep [2, 7] J1m)] (X (J2 p) (.lp 5 [2, 6, 7, 35, 36] J1I) ⟨[(2, .ptr 2 0), (6, .fn J05 [] [.ptr 0 0]), (7, .ptr 4 0), (35, .p (.i .i64 x35)), (36, .p (.i .i64 s.1))], [.box [.p (.s b0)], .arr w1 3 (List.map J7 l1), .box [.slr 1 0 (List.length l1)], .arr w3 3 (List.map J7 s.2), .box [.slr 3 0 (List.length s.2)]]⟩)
  | .inr o => J4r o
def J4H (l1 : List T_api_Row) (l3 : List T_api_Row) : Option (T_api_Index × Int) :=
  Option.bind (J0J (⟨l3⟩ : T_api_Index)) fun r1 =>
  if r1 then
    some ((⟨l3⟩ : T_api_Index), 0)
  else
    some ((⟨([] : List T_api_Row)⟩ : T_api_Index), 28)
theorem JdS {l1 : List T_api_Row} {l3 : List T_api_Row} {B0 : List PV} {w1 : Bool} {w3 : Bool} {o : T_api_Index × Int} (h : J4H l1 l3 = some o) :
    rk (J2 p) J17 0 [] (X (J2 p) J1m ⟨[(2, .ptr 2 0), (7, .ptr 4 0)], [.box (List.map AV.p B0), .arr w1 3 (List.map J7 l1), .box [.slr 1 0 (List.length l1)], .arr w3 3 (List.map J7 l3), .box [.slr 3 0 (List.length l3)]]⟩) = J4r o := by
  unfold J4H at h
  obtain ⟨r1, h2, h⟩ := bi h
  have f3 := J62 p h2
  try simp only [Nf, J1, Jl] at f3
  try simp only [↓Da, Ua, J1m, J1, Jl, *, ↓reduceIte, Nat.reduceEqDiff, Nat.reduceAdd, Nat.reduceLT, Nat.reduceMul]
  rcases Jb h with ⟨h4, h⟩ | ⟨h4, h⟩
  · obtain rfl := sj h
    try simp only [↓Da, Ua, J1m, J1, Jl, J5w, *, ↓reduceIte, Nat.reduceEqDiff, Nat.reduceAdd, Nat.reduceLT, Nat.reduceMul]
    rfl
  · obtain rfl := sj h
    try simp only [↓Da, Ua, J1m, J1, Jl, J5w, *, ↓reduceIte, Nat.reduceEqDiff, Nat.reduceAdd, Nat.reduceLT, Nat.reduceMul]
    rfl
def J1o (x35 : Int) (b0 : List UInt8) (l1 : List T_api_Row) (x36 : Int) (l3 : List T_api_Row) : Option (((Int × (List T_api_Row)) ⊕ (T_api_Index × Int))) :=
  if (decide (x36 < x35)) then
    Option.bind (J0e x36 0 b0) fun r2 =>
    Option.bind (J0e x36 1 b0) fun r6 =>
    Option.bind (J0e x36 2 b0) fun r10 =>
    Option.bind (JcE 24 l3 ([(⟨r2, r6, r10⟩ : T_api_Row)] : List T_api_Row)) fun m14 =>
    some (.inl ((IntKind.wrap .i64 (x36 + 1)), m14))
  else
    Option.map (fun o => .inr o) (J4H l1 l3)
theorem Ja0 {x35 : Int} {b0 : List UInt8} {l1 : List T_api_Row} {x36 : Int} {l3 : List T_api_Row} {w1 : Bool} {w3 : Bool} {o : ((Int × (List T_api_Row)) ⊕ (T_api_Index × Int))} (h : J1o x35 b0 l1 x36 l3 = some o) :
    rk (J2 p) J17 0 [.lo 5 [2, 6, 7, 35, 36] J1I, .bl 1, .sq (.keep [2, 7] J1m)] (X (J2 p) J1I ⟨[(2, .ptr 2 0), (6, .fn J05 [] [.ptr 0 0]), (7, .ptr 4 0), (35, .p (.i .i64 x35)), (36, .p (.i .i64 x36))], [.box [.p (.s b0)], .arr w1 3 (List.map J7 l1), .box [.slr 1 0 (List.length l1)], .arr w3 3 (List.map J7 l3), .box [.slr 3 0 (List.length l3)]]⟩) = (JdO p x35 b0 l1 w1 w3) o := by
  unfold J1o at h
  rcases Jb h with ⟨h1, h⟩ | ⟨h1, h⟩
  · obtain ⟨r2, h3, h⟩ := bi h
    have f4 : ∀ ws new s, JB ws s [0] [[.p (.s b0)]] → (Jo (AF (J2 p)) J05 ([.p (.i .i64 x36), .p (.i .i64 0), .ptr 0 0], ws) 0 new).run s = some ⟨.p (.i .i64 r2), ws ++ [(0, .box ([.p (.s b0)]))]⟩ := Jw (args' := [.p (.i .i64 x36), .p (.i .i64 0), .ptr 0 0]) (bs := [0]) (css := [[.p (.s b0)]]) (css' := [[.p (.s b0)]]) rfl rfl rfl (by simp [Ji, J6]) (J7L p h3) rfl rfl (by simp [Ji, J6])
    try simp only [Nf, J1, Jl] at f4
    have f5 : ∀ ws k new s, JB ws s [0] [[.p (.s b0)]] → Jn ((Jo (AF (J2 p)) J05 ([.p (.i .i64 x36), .p (.i .i64 0), .ptr 0 0], ws) k new).reads s) = [0] ++ ([0] ++ [0]) := J0Y (args' := [.p (.i .i64 x36), .p (.i .i64 0), .ptr 0 0]) (bs := [0]) (css := [[.p (.s b0)]]) rfl rfl rfl (by simp [Ji, J6])
    try simp only [Nf, J1, Jl] at f5
    obtain ⟨r6, h7, h⟩ := bi h
    have f8 : ∀ ws new s, JB ws s [0] [[.p (.s b0)]] → (Jo (AF (J2 p)) J05 ([.p (.i .i64 x36), .p (.i .i64 1), .ptr 0 0], ws) 0 new).run s = some ⟨.p (.i .i64 r6), ws ++ [(0, .box ([.p (.s b0)]))]⟩ := Jw (args' := [.p (.i .i64 x36), .p (.i .i64 1), .ptr 0 0]) (bs := [0]) (css := [[.p (.s b0)]]) (css' := [[.p (.s b0)]]) rfl rfl rfl (by simp [Ji, J6]) (J7L p h7) rfl rfl (by simp [Ji, J6])
    try simp only [Nf, J1, Jl] at f8
    have f9 : ∀ ws k new s, JB ws s [0] [[.p (.s b0)]] → Jn ((Jo (AF (J2 p)) J05 ([.p (.i .i64 x36), .p (.i .i64 1), .ptr 0 0], ws) k new).reads s) = [0] ++ ([0] ++ [0]) := J0Y (args' := [.p (.i .i64 x36), .p (.i .i64 1), .ptr 0 0]) (bs := [0]) (css := [[.p (.s b0)]]) rfl rfl rfl (by simp [Ji, J6])
    try simp only [Nf, J1, Jl] at f9
    obtain ⟨r10, h11, h⟩ := bi h
    have f12 : ∀ ws new s, JB ws s [0] [[.p (.s b0)]] → (Jo (AF (J2 p)) J05 ([.p (.i .i64 x36), .p (.i .i64 2), .ptr 0 0], ws) 0 new).run s = some ⟨.p (.i .i64 r10), ws ++ [(0, .box ([.p (.s b0)]))]⟩ := Jw (args' := [.p (.i .i64 x36), .p (.i .i64 2), .ptr 0 0]) (bs := [0]) (css := [[.p (.s b0)]]) (css' := [[.p (.s b0)]]) rfl rfl rfl (by simp [Ji, J6]) (J7L p h11) rfl rfl (by simp [Ji, J6])
    try simp only [Nf, J1, Jl] at f12
    have f13 : ∀ ws k new s, JB ws s [0] [[.p (.s b0)]] → Jn ((Jo (AF (J2 p)) J05 ([.p (.i .i64 x36), .p (.i .i64 2), .ptr 0 0], ws) k new).reads s) = [0] ++ ([0] ++ [0]) := J0Y (args' := [.p (.i .i64 x36), .p (.i .i64 2), .ptr 0 0]) (bs := [0]) (css := [[.p (.s b0)]]) rfl rfl rfl (by simp [Ji, J6])
    try simp only [Nf, J1, Jl] at f13
    obtain ⟨m14, h15, h⟩ := bi h
    have f16 : ∀ s : St, s.sto[3]? = some (.arr w3 3 (List.map J7 l3)) → (J0n 3 (.p (.sl 3 (List.map J7 ([(⟨r2, r6, r10⟩ : T_api_Row)] : List T_api_Row))))).run s = some (List.map J7 ([(⟨r2, r6, r10⟩ : T_api_Row)] : List T_api_Row)) → (J7j 3 24 (.slr 3 0 (List.length l3)) (.p (.sl 3 (List.map J7 ([(⟨r2, r6, r10⟩ : T_api_Row)] : List T_api_Row))))).run s = some ⟨.slr 3 0 (List.length m14), [(3, .arr w3 3 (List.map J7 m14))]⟩ := by
      intro s e1 e2; have e3 := Jg7 h15 e1 e2; try simp only [List.length_cons, List.length_nil, Nat.zero_add] at e3
      exact e3
    try simp only [Nf, J1, Jl] at f16
    obtain rfl := sj h
    try simp only [↓Da, Ua, Ra, J1I, J1, Jl, *, ↓reduceIte, Nat.reduceEqDiff, Nat.reduceAdd, Nat.reduceLT, Nat.reduceMul, Nat.reduceBEq]
    rfl
  · obtain ⟨o', h', rfl⟩ := mi h
    try simp only [↓Da, Ua, Ra, J1I, J1, Jl, *, ↓reduceIte, Nat.reduceEqDiff, Nat.reduceAdd, Nat.reduceLT, Nat.reduceMul, Nat.reduceBEq]
    have e0 := JdS p (B0 := [.s b0]) (w1 := w1) (w3 := w3) h'
    exact e0
def J9y (x35 : Int) (b0 : List UInt8) (l1 : List T_api_Row) (s : Int × (List T_api_Row)) : Option (T_api_Index × Int) :=
  J00 (fun s => J1o x35 b0 l1 s.1 s.2) s
theorem JcI {x35 : Int} {b0 : List UInt8} {l1 : List T_api_Row} {w1 : Bool} {w3 : Bool} {s : Int × (List T_api_Row)} {o : T_api_Index × Int} (h : J9y x35 b0 l1 s = some o) :
    rk (J2 p) J17 0 [.bl 1, .sq (.keep [2, 7] J1m)] (X (J2 p) (.lp 5 [2, 6, 7, 35, 36] J1I) ⟨[(2, .ptr 2 0), (6, .fn J05 [] [.ptr 0 0]), (7, .ptr 4 0), (35, .p (.i .i64 x35)), (36, .p (.i .i64 s.1))], [.box [.p (.s b0)], .arr w1 3 (List.map J7 l1), .box [.slr 1 0 (List.length l1)], .arr w3 3 (List.map J7 s.2), .box [.slr 3 0 (List.length s.2)]]⟩) = J4r o := by
  have h0 : J00 (fun s => J1o x35 b0 l1 s.1 s.2) s = some o := h
  exact J2k (P := fun (s : Int × (List T_api_Row)) (o : T_api_Index × Int) => rk (J2 p) J17 0 [.bl 1, .sq (.keep [2, 7] J1m)] (X (J2 p) (.lp 5 [2, 6, 7, 35, 36] J1I) ⟨[(2, .ptr 2 0), (6, .fn J05 [] [.ptr 0 0]), (7, .ptr 4 0), (35, .p (.i .i64 x35)), (36, .p (.i .i64 s.1))], [.box [.p (.s b0)], .arr w1 3 (List.map J7 l1), .box [.slr 1 0 (List.length l1)], .arr w3 3 (List.map J7 s.2), .box [.slr 3 0 (List.length s.2)]]⟩) = J4r o) (fun s r hs => by rw [J2e]; exact Ja0 p hs) (fun s s1 r hs ih => by rw [J2e]; exact (Ja0 p hs).trans ih) h0
def J3b (x0 : List UInt8) : Option (T_api_Index × Int) :=
  Option.bind (J0Q x0 0 2) fun r1 =>
  if ((r1.2 : Int) != 0) then
    some ((⟨([] : List T_api_Row)⟩ : T_api_Index), 5)
  else
    if (decide (((List.length x0 : Nat) : Int) < (IntKind.wrap .i64 (2 + (IntKind.wrap .i64 (r1.1 * 24)))))) then
      some ((⟨([] : List T_api_Row)⟩ : T_api_Index), 5)
    else
      if (decide (((List.length x0 : Nat) : Int) > (IntKind.wrap .i64 (2 + (IntKind.wrap .i64 (r1.1 * 24)))))) then
        some ((⟨([] : List T_api_Row)⟩ : T_api_Index), 4)
      else
        J9y r1.1 x0 ([] : List T_api_Row) (0, ([] : List T_api_Row))
theorem Jd1 {x0 : List UInt8} {o : T_api_Index × Int} (h : J3b x0 = some o) :
    rk (J2 p) J17 0 [] (X (J2 p) J16 ⟨[(0, .p (.s x0))], []⟩) = J4r o := by
  unfold J3b at h
  obtain ⟨r1, h2, h⟩ := bi h
  have f3 := JgZ p h2
  try simp only [Nf, J1, Jl] at f3
  try simp only [↓Da, Ua, J16, J1, Jl, *, ↓reduceIte, Nat.reduceEqDiff, Nat.reduceAdd, Nat.reduceLT, Nat.reduceMul]
  rcases Jb h with ⟨h4, h⟩ | ⟨h4, h⟩
  · obtain rfl := sj h
    try simp only [↓Da, Ua, J16, J1, Jl, J5w, *, ↓reduceIte, Nat.reduceEqDiff, Nat.reduceAdd, Nat.reduceLT, Nat.reduceMul]
    rfl
  · try simp only [↓Da, Ua, J16, J1, Jl, *, ↓reduceIte, Nat.reduceEqDiff, Nat.reduceAdd, Nat.reduceLT, Nat.reduceMul]
    rcases Jb h with ⟨h5, h⟩ | ⟨h5, h⟩
    · obtain rfl := sj h
      try simp only [↓Da, Ua, J16, J1, Jl, J5w, *, ↓reduceIte, Nat.reduceEqDiff, Nat.reduceAdd, Nat.reduceLT, Nat.reduceMul]
      rfl
    · try simp only [↓Da, Ua, J16, J1, Jl, *, ↓reduceIte, Nat.reduceEqDiff, Nat.reduceAdd, Nat.reduceLT, Nat.reduceMul]
      rcases Jb h with ⟨h6, h⟩ | ⟨h6, h⟩
      · obtain rfl := sj h
        try simp only [↓Da, Ua, J16, J1, Jl, J5w, *, ↓reduceIte, Nat.reduceEqDiff, Nat.reduceAdd, Nat.reduceLT, Nat.reduceMul]
        rfl
      · try simp only [↓Da, Ua, J16, J1, Jl, *, ↓reduceIte, Nat.reduceEqDiff, Nat.reduceAdd, Nat.reduceLT, Nat.reduceMul]
        have e0 := JcI p (w1 := true) (w3 := true) h
        exact e0
theorem Jff {x0 : List UInt8} {o : T_api_Index × Int} (h : J3b x0 = some o) : AF (J2 p) J4j [.p (.s x0)] [] = J4r o :=
  (J0s (J2 p) (JfL p) rfl).trans (Jd1 p h)
theorem Jfh {x0 : List UInt8} {o : T_api_Index × Int} (h : J3b x0 = some o) : ∀ ws new st, (Jo (AF (J2 p)) J4j ([.p (.s x0)], ws) 0 new).run st = some ⟨.tup [.data (J5 o.1), .p (.i .i64 o.2)], ws⟩ := JN rfl (Jff p h) rfl
def J6e  (r : T_api_Index × Int) : Option Res := some (.tup [.data (J5 r.1), .p (.i .i64 r.2)], [])
def JhG (x0 : List UInt8) (x4 : Int) (l0 : List T_api_Row) (w0 : Bool) (w2 : Bool) (o : (Int × (List T_api_Row)) ⊕ (T_api_Index × Int)) : Option Res := match o with
  | .inl s => rk (J2 p) J28 0 [.bl 1, .td 4 [2, 3, 6], .sq (.keep [2, 6] J2w)] (X (J2 p) (.lp 4 [0, 2, 4, 6, 7] J37) ⟨[(0, .p (.s x0)), (2, .ptr 1 0), (4, .p (.i .i64 x4)), (6, .ptr 3 0), (7, .p (.i .i64 s.1))], [.arr w0 3 (List.map J7 l0), .box [.slr 0 0 (List.length l0)], .arr w2 3 (List.map J7 s.2), .box [.slr 2 0 (List.length s.2)]]⟩)
  | .inr o => J6e o
def J7Z (l0 : List T_api_Row) (l2 : List T_api_Row) : Option (T_api_Index × Int) :=
  Option.bind (J2B (⟨l2⟩ : T_api_Index)) fun r1 =>
  if r1 then
    some ((⟨l2⟩ : T_api_Index), 0)
  else
    some ((⟨([] : List T_api_Row)⟩ : T_api_Index), 28)
theorem Jhf {l0 : List T_api_Row} {l2 : List T_api_Row} {w0 : Bool} {w2 : Bool} {o : T_api_Index × Int} (h : J7Z l0 l2 = some o) :
    rk (J2 p) J28 0 [] (X (J2 p) J2w ⟨[(2, .ptr 1 0), (6, .ptr 3 0)], [.arr w0 3 (List.map J7 l0), .box [.slr 0 0 (List.length l0)], .arr w2 3 (List.map J7 l2), .box [.slr 2 0 (List.length l2)]]⟩) = J6e o := by
  unfold J7Z at h
  obtain ⟨r1, h2, h⟩ := bi h
  have f3 := J85 p h2
  try simp only [Nf, J1, Jl] at f3
  try simp only [↓Da, Ua, J2w, J1, Jl, *, ↓reduceIte, Nat.reduceEqDiff, Nat.reduceAdd, Nat.reduceLT, Nat.reduceMul]
  rcases Jb h with ⟨h4, h⟩ | ⟨h4, h⟩
  · obtain rfl := sj h
    try simp only [↓Da, Ua, J2w, J1, Jl, J7G, *, ↓reduceIte, Nat.reduceEqDiff, Nat.reduceAdd, Nat.reduceLT, Nat.reduceMul]
    rfl
  · obtain rfl := sj h
    try simp only [↓Da, Ua, J2w, J1, Jl, J7G, *, ↓reduceIte, Nat.reduceEqDiff, Nat.reduceAdd, Nat.reduceLT, Nat.reduceMul]
    rfl
def J4a (x0 : List UInt8) (x4 : Int) (l0 : List T_api_Row) (x7 : Int) (l2 : List T_api_Row) : Option (((Int × (List T_api_Row)) ⊕ (T_api_Index × Int))) :=
  if (decide (x7 < x4)) then
    Option.bind (J43 x0 (IntKind.wrap .i64 (2 + (IntKind.wrap .i64 (24 * x7)))) 8) fun r2 =>
    Option.bind (J43 x0 (IntKind.wrap .i64 (10 + (IntKind.wrap .i64 (24 * x7)))) 8) fun r5 =>
    Option.bind (J43 x0 (IntKind.wrap .i64 (18 + (IntKind.wrap .i64 (24 * x7)))) 8) fun r8 =>
    Option.bind (JcE 24 l2 ([(⟨r2.1, r5.1, r8.1⟩ : T_api_Row)] : List T_api_Row)) fun m11 =>
    some (.inl ((IntKind.wrap .i64 (x7 + 1)), m11))
  else
    Option.map (fun o => .inr o) (J7Z l0 l2)
theorem JbC {x0 : List UInt8} {x4 : Int} {l0 : List T_api_Row} {x7 : Int} {l2 : List T_api_Row} {w0 : Bool} {w2 : Bool} {o : ((Int × (List T_api_Row)) ⊕ (T_api_Index × Int))} (h : J4a x0 x4 l0 x7 l2 = some o) :
    rk (J2 p) J28 0 [.lo 4 [0, 2, 4, 6, 7] J37, .bl 1, .td 4 [2, 3, 6], .sq (.keep [2, 6] J2w)] (X (J2 p) J37 ⟨[(0, .p (.s x0)), (2, .ptr 1 0), (4, .p (.i .i64 x4)), (6, .ptr 3 0), (7, .p (.i .i64 x7))], [.arr w0 3 (List.map J7 l0), .box [.slr 0 0 (List.length l0)], .arr w2 3 (List.map J7 l2), .box [.slr 2 0 (List.length l2)]]⟩) = (JhG p x0 x4 l0 w0 w2) o := by
  unfold J4a at h
  rcases Jb h with ⟨h1, h⟩ | ⟨h1, h⟩
  · obtain ⟨r2, h3, h⟩ := bi h
    have f4 := Jax p h3
    try simp only [Nf, J1, Jl] at f4
    obtain ⟨r5, h6, h⟩ := bi h
    have f7 := Jax p h6
    try simp only [Nf, J1, Jl] at f7
    obtain ⟨r8, h9, h⟩ := bi h
    have f10 := Jax p h9
    try simp only [Nf, J1, Jl] at f10
    obtain ⟨m11, h12, h⟩ := bi h
    have f13 : ∀ s : St, s.sto[2]? = some (.arr w2 3 (List.map J7 l2)) → (J0n 3 (.p (.sl 3 (List.map J7 ([(⟨r2.1, r5.1, r8.1⟩ : T_api_Row)] : List T_api_Row))))).run s = some (List.map J7 ([(⟨r2.1, r5.1, r8.1⟩ : T_api_Row)] : List T_api_Row)) → (J7j 3 24 (.slr 2 0 (List.length l2)) (.p (.sl 3 (List.map J7 ([(⟨r2.1, r5.1, r8.1⟩ : T_api_Row)] : List T_api_Row))))).run s = some ⟨.slr 2 0 (List.length m11), [(2, .arr w2 3 (List.map J7 m11))]⟩ := by
      intro s e1 e2; have e3 := Jg7 h12 e1 e2; try simp only [List.length_cons, List.length_nil, Nat.zero_add] at e3
      exact e3
    try simp only [Nf, J1, Jl] at f13
    obtain rfl := sj h
    try simp only [↓Da, Ua, J37, J1, Jl, *, ↓reduceIte, Nat.reduceEqDiff, Nat.reduceAdd, Nat.reduceLT, Nat.reduceMul]
    rfl
  · obtain ⟨o', h', rfl⟩ := mi h
    try simp only [↓Da, Ua, J37, J1, Jl, *, ↓reduceIte, Nat.reduceEqDiff, Nat.reduceAdd, Nat.reduceLT, Nat.reduceMul]
    have e0 := Jhf p (w0 := w0) (w2 := w2) h'
    exact e0
def Jc0 (x0 : List UInt8) (x4 : Int) (l0 : List T_api_Row) (s : Int × (List T_api_Row)) : Option (T_api_Index × Int) :=
  J00 (fun s => J4a x0 x4 l0 s.1 s.2) s
theorem JfG {x0 : List UInt8} {x4 : Int} {l0 : List T_api_Row} {w0 : Bool} {w2 : Bool} {s : Int × (List T_api_Row)} {o : T_api_Index × Int} (h : Jc0 x0 x4 l0 s = some o) :
    rk (J2 p) J28 0 [.bl 1, .td 4 [2, 3, 6], .sq (.keep [2, 6] J2w)] (X (J2 p) (.lp 4 [0, 2, 4, 6, 7] J37) ⟨[(0, .p (.s x0)), (2, .ptr 1 0), (4, .p (.i .i64 x4)), (6, .ptr 3 0), (7, .p (.i .i64 s.1))], [.arr w0 3 (List.map J7 l0), .box [.slr 0 0 (List.length l0)], .arr w2 3 (List.map J7 s.2), .box [.slr 2 0 (List.length s.2)]]⟩) = J6e o := by
  have h0 : J00 (fun s => J4a x0 x4 l0 s.1 s.2) s = some o := h
  exact J2k (P := fun (s : Int × (List T_api_Row)) (o : T_api_Index × Int) => rk (J2 p) J28 0 [.bl 1, .td 4 [2, 3, 6], .sq (.keep [2, 6] J2w)] (X (J2 p) (.lp 4 [0, 2, 4, 6, 7] J37) ⟨[(0, .p (.s x0)), (2, .ptr 1 0), (4, .p (.i .i64 x4)), (6, .ptr 3 0), (7, .p (.i .i64 s.1))], [.arr w0 3 (List.map J7 l0), .box [.slr 0 0 (List.length l0)], .arr w2 3 (List.map J7 s.2), .box [.slr 2 0 (List.length s.2)]]⟩) = J6e o) (fun s r hs => by rw [J2e]; exact JbC p hs) (fun s s1 r hs ih => by rw [J2e]; exact (JbC p hs).trans ih) h0
def J5l (x0 : List UInt8) : Option (T_api_Index × Int) :=
  Option.bind (J43 x0 0 2) fun r1 =>
  if ((r1.2 : Int) != 0) then
    some ((⟨([] : List T_api_Row)⟩ : T_api_Index), 5)
  else
    if (decide ((IntKind.wrap .i64 (((List.length x0 : Nat) : Int) - 2)) < (IntKind.wrap .i64 (24 * r1.1)))) then
      some ((⟨([] : List T_api_Row)⟩ : T_api_Index), 5)
    else
      if (decide ((IntKind.wrap .i64 (((List.length x0 : Nat) : Int) - 2)) > (IntKind.wrap .i64 (24 * r1.1)))) then
        some ((⟨([] : List T_api_Row)⟩ : T_api_Index), 4)
      else
        Jc0 x0 r1.1 ([] : List T_api_Row) (0, ([] : List T_api_Row))
theorem JeZ {x0 : List UInt8} {o : T_api_Index × Int} (h : J5l x0 = some o) :
    rk (J2 p) J28 0 [] (X (J2 p) J27 ⟨[(0, .p (.s x0))], []⟩) = J6e o := by
  unfold J5l at h
  obtain ⟨r1, h2, h⟩ := bi h
  have f3 := Jax p h2
  try simp only [Nf, J1, Jl] at f3
  try simp only [↓Da, Ua, J27, J1, Jl, *, ↓reduceIte, Nat.reduceEqDiff, Nat.reduceAdd, Nat.reduceLT, Nat.reduceMul]
  rcases Jb h with ⟨h4, h⟩ | ⟨h4, h⟩
  · obtain rfl := sj h
    try simp only [↓Da, Ua, J27, J1, Jl, J7G, *, ↓reduceIte, Nat.reduceEqDiff, Nat.reduceAdd, Nat.reduceLT, Nat.reduceMul]
    rfl
  · try simp only [↓Da, Ua, J27, J1, Jl, *, ↓reduceIte, Nat.reduceEqDiff, Nat.reduceAdd, Nat.reduceLT, Nat.reduceMul]
    rcases Jb h with ⟨h5, h⟩ | ⟨h5, h⟩
    · obtain rfl := sj h
      try simp only [↓Da, Ua, J27, J1, Jl, J7G, *, ↓reduceIte, Nat.reduceEqDiff, Nat.reduceAdd, Nat.reduceLT, Nat.reduceMul]
      rfl
    · try simp only [↓Da, Ua, J27, J1, Jl, *, ↓reduceIte, Nat.reduceEqDiff, Nat.reduceAdd, Nat.reduceLT, Nat.reduceMul]
      rcases Jb h with ⟨h6, h⟩ | ⟨h6, h⟩
      · obtain rfl := sj h
        try simp only [↓Da, Ua, J27, J1, Jl, J7G, *, ↓reduceIte, Nat.reduceEqDiff, Nat.reduceAdd, Nat.reduceLT, Nat.reduceMul]
        rfl
      · try simp only [↓Da, Ua, J27, J1, Jl, *, ↓reduceIte, Nat.reduceEqDiff, Nat.reduceAdd, Nat.reduceLT, Nat.reduceMul]
        have e0 := JfG p (w0 := true) (w2 := true) h
        exact e0
theorem Jj2 {x0 : List UInt8} {o : T_api_Index × Int} (h : J5l x0 = some o) : AF (J2 p) J6h [.p (.s x0)] [] = J6e o :=
  (J0s (J2 p) (JjK p) rfl).trans (JeZ p h)
theorem Jjj {x0 : List UInt8} {o : T_api_Index × Int} (h : J5l x0 = some o) : ∀ ws new st, (Jo (AF (J2 p)) J6h ([.p (.s x0)], ws) 0 new).run st = some ⟨.tup [.data (J5 o.1), .p (.i .i64 o.2)], ws⟩ := JN rfl (Jj2 p h) rfl
def Jab  (r : Jk × T_pagemenddraw_Codes) : Option Res := some (.data (Jf r.1), [.box (List.map AV.p (J0 r.2))])
def J3V (b0 : T_pagemenddraw_Codes) : Option (Jk × T_pagemenddraw_Codes) :=
  Option.bind (Js b0 4) fun r1 =>
  Option.bind (Js r1.2 3) fun r4 =>
  Option.bind (J2T r4.2) fun r7 =>
  Option.bind (J2T r7.2) fun r10 =>
  some ((⟨r1.1, r4.1, r7.1, r10.1⟩ : Jk), r10.2)
theorem Jcb {b0 : T_pagemenddraw_Codes} {o : Jk × T_pagemenddraw_Codes} (h : J3V b0 = some o) :
    rk (J2 p) J3O 1 [] (X (J2 p) J56 ⟨[(0, .ptr 0 0)], [.box (List.map AV.p (J0 b0))]⟩) = Jab o := by
  unfold J3V at h
  obtain ⟨r1, h2, h⟩ := bi h
  have f3 : ∀ ws new s, JB ws s [0] [List.map AV.p (J0 b0)] → (Jo (AF (J2 p)) J9 ([.ptr 0 0, .p (.i .i64 4)], ws) 0 new).run s = some ⟨.p (.i .i64 r1.1), ws ++ [(0, .box (List.map AV.p (J0 r1.2)))]⟩ := Jw (args' := [.ptr 0 0, .p (.i .i64 4)]) (bs := [0]) (css := [List.map AV.p (J0 b0)]) (css' := [List.map AV.p (J0 r1.2)]) rfl rfl rfl (by simp [Ji, J6]) (Ju p h2) rfl rfl (by simp [Ji, J6])
  try simp only [Nf] at f3
  obtain ⟨r4, h5, h⟩ := bi h
  have f6 : ∀ ws new s, JB ws s [0] [List.map AV.p (J0 r1.2)] → (Jo (AF (J2 p)) J9 ([.ptr 0 0, .p (.i .i64 3)], ws) 0 new).run s = some ⟨.p (.i .i64 r4.1), ws ++ [(0, .box (List.map AV.p (J0 r4.2)))]⟩ := Jw (args' := [.ptr 0 0, .p (.i .i64 3)]) (bs := [0]) (css := [List.map AV.p (J0 r1.2)]) (css' := [List.map AV.p (J0 r4.2)]) rfl rfl rfl (by simp [Ji, J6]) (Ju p h5) rfl rfl (by simp [Ji, J6])
  try simp only [Nf] at f6
  obtain ⟨r7, h8, h⟩ := bi h
  have f9 : ∀ ws new s, JB ws s [0] [List.map AV.p (J0 r4.2)] → (Jo (AF (J2 p)) J2P ([.ptr 0 0], ws) 0 new).run s = some ⟨.data (Jr r7.1), ws ++ [(0, .box (List.map AV.p (J0 r7.2)))]⟩ := Jw (args' := [.ptr 0 0]) (bs := [0]) (css := [List.map AV.p (J0 r4.2)]) (css' := [List.map AV.p (J0 r7.2)]) rfl rfl rfl (by simp [Ji, J6]) (Jb3 p h8) rfl rfl (by simp [Ji, J6])
  try simp only [Nf] at f9
  obtain ⟨r10, h11, h⟩ := bi h
  have f12 : ∀ ws new s, JB ws s [0] [List.map AV.p (J0 r7.2)] → (Jo (AF (J2 p)) J2P ([.ptr 0 0], ws) 0 new).run s = some ⟨.data (Jr r10.1), ws ++ [(0, .box (List.map AV.p (J0 r10.2)))]⟩ := Jw (args' := [.ptr 0 0]) (bs := [0]) (css := [List.map AV.p (J0 r7.2)]) (css' := [List.map AV.p (J0 r10.2)]) rfl rfl rfl (by simp [Ji, J6]) (Jb3 p h11) rfl rfl (by simp [Ji, J6])
  try simp only [Nf] at f12
  obtain rfl := sj h
  try simp only [↓Da, Ua, J56, Ja, J8, Jd, JeN, *, ↓reduceIte, Nat.reduceEqDiff, Nat.reduceAdd, Nat.reduceLT, Nat.reduceMul]
  rfl
theorem JeY {b0 : T_pagemenddraw_Codes} {o : Jk × T_pagemenddraw_Codes} (h : J3V b0 = some o) : AF (J2 p) J3W [.ptr 0 0] [.box (List.map AV.p (J0 b0))] = Jab o :=
  (J0s (J2 p) (JeR p) rfl).trans (Jcb p h)
def J5T  (r : J3 × Bool) : Option Res := some (.tup [.data (J4 r.1), .p (.b r.2)], [])
def J1N (x5 : Bool) (b0 : J3) (b1 : J3) (b2 : J3) : Option (J3 × Bool) :=
  if x5 then
    if (decide (b0.Tx ≥ 1)) then
      some (b2, (decide (b0.Tx ≤ 1073741824)))
    else
      some (b2, false)
  else
    some (b2, false)
theorem J75 {x5 : Bool} {b0 : J3} {b1 : J3} {b2 : J3} {o : J3 × Bool} (h : J1N x5 b0 b1 b2 = some o) :
    rk (J2 p) J2z 0 [.bl 0, .sq (.keep [2, 4] J4C)] (X (J2 p) J5H ⟨[(1, .ptr 0 0), (2, .ptr 1 0), (4, .ptr 2 0), (5, .p (.b x5))], [.box (List.map AV.p (J4 b0)), .box (List.map AV.p (J4 b1)), .box (List.map AV.p (J4 b2))]⟩) = J5T o := by
  unfold J1N at h
  rcases Jb h with ⟨h1, h⟩ | ⟨h1, h⟩
  · try simp only [↓Da, Ua, Ra, J5H, Ja, J8, Jh, *, ↓reduceIte, Nat.reduceEqDiff, Nat.reduceAdd, Nat.reduceLT, Nat.reduceMul, Nat.reduceBEq]
    rcases Jb h with ⟨h2, h⟩ | ⟨h2, h⟩
    · obtain rfl := sj h
      try simp only [↓Da, Ua, Ra, J5H, Ja, J8, Jh, J3k, *, ↓reduceIte, Nat.reduceEqDiff, Nat.reduceAdd, Nat.reduceLT, Nat.reduceMul, Nat.reduceBEq]
      rfl
    · obtain rfl := sj h
      try simp only [↓Da, Ua, Ra, J5H, Ja, J8, Jh, J3k, *, ↓reduceIte, Nat.reduceEqDiff, Nat.reduceAdd, Nat.reduceLT, Nat.reduceMul, Nat.reduceBEq]
      rfl
  · obtain rfl := sj h
    try simp only [↓Da, Ua, Ra, J5H, Ja, J8, Jh, J3k, *, ↓reduceIte, Nat.reduceEqDiff, Nat.reduceAdd, Nat.reduceLT, Nat.reduceMul, Nat.reduceBEq]
    rfl
def J5G (b1 : J3) (b2 : J3) : Option (J3 × Bool) :=
  some (b2, false)
theorem Ji7 {b1 : J3} {b2 : J3} {B0 : List PV} {o : J3 × Bool} (h : J5G b1 b2 = some o) :
    rk (J2 p) J2z 0 [] (X (J2 p) J4C ⟨[(2, .ptr 1 0), (4, .ptr 2 0)], [.box (List.map AV.p B0), .box (List.map AV.p (J4 b1)), .box (List.map AV.p (J4 b2))]⟩) = J5T o := by
  unfold J5G at h
  obtain rfl := sj h
  try simp only [↓Da, Ua, J4C, Ja, J8, Jh, J3k, ↓reduceIte, Nat.reduceEqDiff, Nat.reduceAdd, Nat.reduceLT, Nat.reduceMul]
  rfl
def J2f (x12 : Int) (x91 : Bool) (b0 : J3) (b1 : J3) (b2 : J3) : Option (J3 × Bool) :=
  if x91 then
    some ((⟨b2.LSN, b2.Kind, b2.Tx, b2.PrevTx, b2.PrevPage, b2.Ref, b2.Change, b0.Blob⟩ : J3), (decide (((List.length b0.Blob : Nat) : Int) ≤ 8192)))
  else
    if ((x12 : Int) == 7) then
      if (decide (b0.Change.Page ≥ 0)) then
        some ((⟨b2.LSN, b2.Kind, b2.Tx, b2.PrevTx, b2.PrevPage, b0.Ref, (⟨b0.Change.Page, b2.Change.Slot, b2.Change.Before, b2.Change.After⟩ : Jk), b2.Blob⟩ : J3), (decide (b0.Change.Page < 64)))
      else
        some ((⟨b2.LSN, b2.Kind, b2.Tx, b2.PrevTx, b2.PrevPage, b0.Ref, (⟨b0.Change.Page, b2.Change.Slot, b2.Change.Before, b2.Change.After⟩ : Jk), b2.Blob⟩ : J3), false)
    else
      J5G b1 b2
theorem Jcx {x12 : Int} {x91 : Bool} {b0 : J3} {b1 : J3} {b2 : J3} {o : J3 × Bool} (h : J2f x12 x91 b0 b1 b2 = some o) :
    rk (J2 p) J2z 0 [.bl 0, .sq (.keep [2, 4] J4C)] (X (J2 p) J3K ⟨[(1, .ptr 0 0), (2, .ptr 1 0), (4, .ptr 2 0), (12, .p (.i .i64 x12)), (91, .p (.b x91))], [.box (List.map AV.p (J4 b0)), .box (List.map AV.p (J4 b1)), .box (List.map AV.p (J4 b2))]⟩) = J5T o := by
  unfold J2f at h
  rcases Jb h with ⟨h1, h⟩ | ⟨h1, h⟩
  · obtain rfl := sj h
    try simp only [↓Da, Ua, Ra, J3K, Ja, J8, Jh, J3k, *, ↓reduceIte, Nat.reduceEqDiff, Nat.reduceAdd, Nat.reduceLT, Nat.reduceMul, Nat.reduceBEq]
    rfl
  · try simp only [↓Da, Ua, Ra, J3K, Ja, J8, Jh, *, ↓reduceIte, Nat.reduceEqDiff, Nat.reduceAdd, Nat.reduceLT, Nat.reduceMul, Nat.reduceBEq]
    rcases Jb h with ⟨h2, h⟩ | ⟨h2, h⟩
    · have h2n : ((x12 : Int) != 7) = false := by rw [bne, h2]; rfl
      have f3 : sub (J4 b0) 6 1 = some ((r_i .i64) b0.Change.Page) := by
        have e0 := (J9u (J0H b0) (J1C b0.Change))
        exact e0
      try simp only [Nf] at f3
      have f4 : spl (J4 (⟨b2.LSN, b2.Kind, b2.Tx, b2.PrevTx, b2.PrevPage, b0.Ref, b2.Change, b2.Blob⟩ : J3)) 6 ((r_i .i64) b0.Change.Page) = some (J4 (⟨b2.LSN, b2.Kind, b2.Tx, b2.PrevTx, b2.PrevPage, b0.Ref, (⟨b0.Change.Page, b2.Change.Slot, b2.Change.Before, b2.Change.After⟩ : Jk), b2.Blob⟩ : J3)) := by
        have e0 := (Jnd (J0H (⟨b2.LSN, b2.Kind, b2.Tx, b2.PrevTx, b2.PrevPage, b0.Ref, b2.Change, b2.Blob⟩ : J3)) (J8n b2.Change b0.Change.Page) (J81 (⟨b2.LSN, b2.Kind, b2.Tx, b2.PrevTx, b2.PrevPage, b0.Ref, b2.Change, b2.Blob⟩ : J3) _))
        exact e0
      try simp only [Nf] at f4
      have f5 : sub (J4 b0) 6 1 = some ((r_i .i64) b0.Change.Page) := by
        have e0 := (J9u (J0H b0) (J1C b0.Change))
        exact e0
      try simp only [Nf] at f5
      try simp only [↓Da, Ua, Ra, J3K, Ja, J8, Jh, *, ↓reduceIte, Nat.reduceEqDiff, Nat.reduceAdd, Nat.reduceLT, Nat.reduceMul, Nat.reduceBEq]
      rcases Jb h with ⟨h6, h⟩ | ⟨h6, h⟩
      · have f7 : sub (J4 b0) 6 1 = some ((r_i .i64) b0.Change.Page) := by
          have e0 := (J9u (J0H b0) (J1C b0.Change))
          exact e0
        try simp only [Nf] at f7
        obtain rfl := sj h
        try simp only [↓Da, Ua, Ra, J3K, Ja, J8, Jh, J3k, *, ↓reduceIte, Nat.reduceEqDiff, Nat.reduceAdd, Nat.reduceLT, Nat.reduceMul, Nat.reduceBEq]
        rfl
      · obtain rfl := sj h
        try simp only [↓Da, Ua, Ra, J3K, Ja, J8, Jh, J3k, *, ↓reduceIte, Nat.reduceEqDiff, Nat.reduceAdd, Nat.reduceLT, Nat.reduceMul, Nat.reduceBEq]
        rfl
    · have h2n : ((x12 : Int) != 7) = true := by rw [bne, h2]; rfl
      try simp only [↓Da, Ua, Ra, J3K, Ja, J8, Jh, *, ↓reduceIte, Nat.reduceEqDiff, Nat.reduceAdd, Nat.reduceLT, Nat.reduceMul, Nat.reduceBEq]
      have e0 := Ji7 p (B0 := (J4 b0)) h
      exact e0
def J1v (x12 : Int) (x67 : Bool) (b0 : J3) (b1 : J3) (b2 : J3) : Option (J3 × Bool) :=
  if x67 then
    if (decide (b0.Tx ≥ 1)) then
      if (decide (b0.Tx ≤ 1073741824)) then
        some ((⟨b2.LSN, b2.Kind, b0.Tx, b0.PrevTx, b2.PrevPage, b2.Ref, b2.Change, b2.Blob⟩ : J3), (decide (b0.PrevTx > 0)))
      else
        some ((⟨b2.LSN, b2.Kind, b0.Tx, b0.PrevTx, b2.PrevPage, b2.Ref, b2.Change, b2.Blob⟩ : J3), false)
    else
      some ((⟨b2.LSN, b2.Kind, b0.Tx, b0.PrevTx, b2.PrevPage, b2.Ref, b2.Change, b2.Blob⟩ : J3), false)
  else
    if ((x12 : Int) == 6) then
      J2f x12 true b0 b1 b2
    else
      J2f x12 ((x12 : Int) == 8) b0 b1 b2
theorem J9V {x12 : Int} {x67 : Bool} {b0 : J3} {b1 : J3} {b2 : J3} {o : J3 × Bool} (h : J1v x12 x67 b0 b1 b2 = some o) :
    rk (J2 p) J2z 0 [.bl 0, .sq (.keep [2, 4] J4C)] (X (J2 p) J2d ⟨[(1, .ptr 0 0), (2, .ptr 1 0), (4, .ptr 2 0), (12, .p (.i .i64 x12)), (67, .p (.b x67))], [.box (List.map AV.p (J4 b0)), .box (List.map AV.p (J4 b1)), .box (List.map AV.p (J4 b2))]⟩) = J5T o := by
  unfold J1v at h
  rcases Jb h with ⟨h1, h⟩ | ⟨h1, h⟩
  · try simp only [↓Da, Ua, Ra, J2d, Ja, J8, Jh, *, ↓reduceIte, Nat.reduceEqDiff, Nat.reduceAdd, Nat.reduceLT, Nat.reduceMul, Nat.reduceBEq]
    rcases Jb h with ⟨h2, h⟩ | ⟨h2, h⟩
    · try simp only [↓Da, Ua, Ra, J2d, Ja, J8, Jh, *, ↓reduceIte, Nat.reduceEqDiff, Nat.reduceAdd, Nat.reduceLT, Nat.reduceMul, Nat.reduceBEq]
      rcases Jb h with ⟨h3, h⟩ | ⟨h3, h⟩
      · obtain rfl := sj h
        try simp only [↓Da, Ua, Ra, J2d, Ja, J8, Jh, J3k, *, ↓reduceIte, Nat.reduceEqDiff, Nat.reduceAdd, Nat.reduceLT, Nat.reduceMul, Nat.reduceBEq]
        rfl
      · obtain rfl := sj h
        try simp only [↓Da, Ua, Ra, J2d, Ja, J8, Jh, J3k, *, ↓reduceIte, Nat.reduceEqDiff, Nat.reduceAdd, Nat.reduceLT, Nat.reduceMul, Nat.reduceBEq]
        rfl
    · obtain rfl := sj h
      try simp only [↓Da, Ua, Ra, J2d, Ja, J8, Jh, J3k, *, ↓reduceIte, Nat.reduceEqDiff, Nat.reduceAdd, Nat.reduceLT, Nat.reduceMul, Nat.reduceBEq]
      rfl
  · try simp only [↓Da, Ua, Ra, J2d, Ja, J8, Jh, *, ↓reduceIte, Nat.reduceEqDiff, Nat.reduceAdd, Nat.reduceLT, Nat.reduceMul, Nat.reduceBEq]
    rcases Jb h with ⟨h4, h⟩ | ⟨h4, h⟩
    · have h4n : ((x12 : Int) != 6) = false := by rw [bne, h4]; rfl
      try simp only [↓Da, Ua, Ra, J2d, Ja, J8, Jh, *, ↓reduceIte, Nat.reduceEqDiff, Nat.reduceAdd, Nat.reduceLT, Nat.reduceMul, Nat.reduceBEq]
      have e0 := Jcx p h
      exact e0
    · have h4n : ((x12 : Int) != 6) = true := by rw [bne, h4]; rfl
      try simp only [↓Da, Ua, Ra, J2d, Ja, J8, Jh, *, ↓reduceIte, Nat.reduceEqDiff, Nat.reduceAdd, Nat.reduceLT, Nat.reduceMul, Nat.reduceBEq]
      have e0 := Jcx p h
      exact e0
def J1d (x12 : Int) (x13 : Bool) (b0 : J3) (b1 : J3) (b2 : J3) : Option (J3 × Bool) :=
  if x13 then
    Option.bind (J3l b0.Change) fun r2 =>
    if ((b0.Kind : Int) == 2) then
      if r2 then
        if (decide (b0.PrevTx > 0)) then
          if (decide (b0.Ref ≥ 1)) then
            J1N (decide (b0.Ref ≤ b0.PrevTx)) b0 b1 (⟨b2.LSN, b2.Kind, b0.Tx, b0.PrevTx, b0.PrevPage, b0.Ref, b0.Change, b2.Blob⟩ : J3)
          else
            J1N false b0 b1 (⟨b2.LSN, b2.Kind, b0.Tx, b0.PrevTx, b0.PrevPage, b0.Ref, b0.Change, b2.Blob⟩ : J3)
        else
          J1N false b0 b1 (⟨b2.LSN, b2.Kind, b0.Tx, b0.PrevTx, b0.PrevPage, b0.Ref, b0.Change, b2.Blob⟩ : J3)
      else
        J1N false b0 b1 (⟨b2.LSN, b2.Kind, b0.Tx, b0.PrevTx, b0.PrevPage, b0.Ref, b0.Change, b2.Blob⟩ : J3)
    else
      J1N r2 b0 b1 (⟨b2.LSN, b2.Kind, b0.Tx, b0.PrevTx, b0.PrevPage, b2.Ref, b0.Change, b2.Blob⟩ : J3)
  else
    if ((x12 : Int) == 3) then
      J1v x12 true b0 b1 b2
    else
      if ((x12 : Int) == 4) then
        J1v x12 true b0 b1 b2
      else
        J1v x12 ((x12 : Int) == 5) b0 b1 b2
theorem Jce {x12 : Int} {x13 : Bool} {b0 : J3} {b1 : J3} {b2 : J3} {o : J3 × Bool} (h : J1d x12 x13 b0 b1 b2 = some o) :
    rk (J2 p) J2z 0 [.bl 0, .sq (.keep [2, 4] J4C)] (X (J2 p) J0B ⟨[(1, .ptr 0 0), (2, .ptr 1 0), (4, .ptr 2 0), (12, .p (.i .i64 x12)), (13, .p (.b x13))], [.box (List.map AV.p (J4 b0)), .box (List.map AV.p (J4 b1)), .box (List.map AV.p (J4 b2))]⟩) = J5T o := by
  unfold J1d at h
  rcases Jb h with ⟨h1, h⟩ | ⟨h1, h⟩
  · obtain ⟨r2, h3, h⟩ := bi h
    have f4 := JkR p h3
    try simp only [Nf] at f4
    try simp only [↓Da, Ua, Ra, J0B, Ja, J8, Jh, *, ↓reduceIte, Nat.reduceEqDiff, Nat.reduceAdd, Nat.reduceLT, Nat.reduceMul, Nat.reduceBEq]
    rcases Jb h with ⟨h5, h⟩ | ⟨h5, h⟩
    · have h5n : ((b0.Kind : Int) != 2) = false := by rw [bne, h5]; rfl
      try simp only [↓Da, Ua, Ra, J0B, Ja, J8, Jh, *, ↓reduceIte, Nat.reduceEqDiff, Nat.reduceAdd, Nat.reduceLT, Nat.reduceMul, Nat.reduceBEq]
      rcases Jb h with ⟨h6, h⟩ | ⟨h6, h⟩
      · try simp only [↓Da, Ua, Ra, J0B, Ja, J8, Jh, *, ↓reduceIte, Nat.reduceEqDiff, Nat.reduceAdd, Nat.reduceLT, Nat.reduceMul, Nat.reduceBEq]
        rcases Jb h with ⟨h7, h⟩ | ⟨h7, h⟩
        · try simp only [↓Da, Ua, Ra, J0B, Ja, J8, Jh, *, ↓reduceIte, Nat.reduceEqDiff, Nat.reduceAdd, Nat.reduceLT, Nat.reduceMul, Nat.reduceBEq]
          rcases Jb h with ⟨h8, h⟩ | ⟨h8, h⟩
          · try simp only [↓Da, Ua, Ra, J0B, Ja, J8, Jh, *, ↓reduceIte, Nat.reduceEqDiff, Nat.reduceAdd, Nat.reduceLT, Nat.reduceMul, Nat.reduceBEq]
            have e0 := J75 p h
            exact e0
          · try simp only [↓Da, Ua, Ra, J0B, Ja, J8, Jh, *, ↓reduceIte, Nat.reduceEqDiff, Nat.reduceAdd, Nat.reduceLT, Nat.reduceMul, Nat.reduceBEq]
            have e0 := J75 p h
            exact e0
        · try simp only [↓Da, Ua, Ra, J0B, Ja, J8, Jh, *, ↓reduceIte, Nat.reduceEqDiff, Nat.reduceAdd, Nat.reduceLT, Nat.reduceMul, Nat.reduceBEq]
          have e0 := J75 p h
          exact e0
      · try simp only [↓Da, Ua, Ra, J0B, Ja, J8, Jh, *, ↓reduceIte, Nat.reduceEqDiff, Nat.reduceAdd, Nat.reduceLT, Nat.reduceMul, Nat.reduceBEq]
        have e0 := J75 p h
        exact e0
    · have h5n : ((b0.Kind : Int) != 2) = true := by rw [bne, h5]; rfl
      try simp only [↓Da, Ua, Ra, J0B, Ja, J8, Jh, *, ↓reduceIte, Nat.reduceEqDiff, Nat.reduceAdd, Nat.reduceLT, Nat.reduceMul, Nat.reduceBEq]
      have e0 := J75 p h
      exact e0
  · try simp only [↓Da, Ua, Ra, J0B, Ja, J8, Jh, *, ↓reduceIte, Nat.reduceEqDiff, Nat.reduceAdd, Nat.reduceLT, Nat.reduceMul, Nat.reduceBEq]
    rcases Jb h with ⟨h9, h⟩ | ⟨h9, h⟩
    · have h9n : ((x12 : Int) != 3) = false := by rw [bne, h9]; rfl
      try simp only [↓Da, Ua, Ra, J0B, Ja, J8, Jh, *, ↓reduceIte, Nat.reduceEqDiff, Nat.reduceAdd, Nat.reduceLT, Nat.reduceMul, Nat.reduceBEq]
      have e0 := J9V p h
      exact e0
    · have h9n : ((x12 : Int) != 3) = true := by rw [bne, h9]; rfl
      try simp only [↓Da, Ua, Ra, J0B, Ja, J8, Jh, *, ↓reduceIte, Nat.reduceEqDiff, Nat.reduceAdd, Nat.reduceLT, Nat.reduceMul, Nat.reduceBEq]
      rcases Jb h with ⟨h10, h⟩ | ⟨h10, h⟩
      · have h10n : ((x12 : Int) != 4) = false := by rw [bne, h10]; rfl
        try simp only [↓Da, Ua, Ra, J0B, Ja, J8, Jh, *, ↓reduceIte, Nat.reduceEqDiff, Nat.reduceAdd, Nat.reduceLT, Nat.reduceMul, Nat.reduceBEq]
        have e0 := J9V p h
        exact e0
      · have h10n : ((x12 : Int) != 4) = true := by rw [bne, h10]; rfl
        try simp only [↓Da, Ua, Ra, J0B, Ja, J8, Jh, *, ↓reduceIte, Nat.reduceEqDiff, Nat.reduceAdd, Nat.reduceLT, Nat.reduceMul, Nat.reduceBEq]
        have e0 := J9V p h
        exact e0
def J0w (x0 : J3) : Option (J3 × Bool) :=
  if ((x0.Kind : Int) == 1) then
    J1d x0.Kind true x0 (⟨0, 0, 0, 0, 0, 0, (⟨0, 0, (⟨false, ([] : List UInt8)⟩ : Jm), (⟨false, ([] : List UInt8)⟩ : Jm)⟩ : Jk), ([] : List UInt8)⟩ : J3) (⟨x0.LSN, x0.Kind, 0, 0, 0, 0, (⟨0, 0, (⟨false, ([] : List UInt8)⟩ : Jm), (⟨false, ([] : List UInt8)⟩ : Jm)⟩ : Jk), ([] : List UInt8)⟩ : J3)
  else
    J1d x0.Kind ((x0.Kind : Int) == 2) x0 (⟨0, 0, 0, 0, 0, 0, (⟨0, 0, (⟨false, ([] : List UInt8)⟩ : Jm), (⟨false, ([] : List UInt8)⟩ : Jm)⟩ : Jk), ([] : List UInt8)⟩ : J3) (⟨x0.LSN, x0.Kind, 0, 0, 0, 0, (⟨0, 0, (⟨false, ([] : List UInt8)⟩ : Jm), (⟨false, ([] : List UInt8)⟩ : Jm)⟩ : Jk), ([] : List UInt8)⟩ : J3)
theorem Jgi {x0 : J3} {o : J3 × Bool} (h : J0w x0 = some o) :
    rk (J2 p) J2z 0 [] (X (J2 p) J6Z ⟨[(0, .data (J4 x0))], []⟩) = J5T o := by
  unfold J0w at h
  rcases Jb h with ⟨h1, h⟩ | ⟨h1, h⟩
  · have h1n : ((x0.Kind : Int) != 1) = false := by rw [bne, h1]; rfl
    try simp only [↓Da, Ua, J6Z, Ja, J8, Jh, *, ↓reduceIte, Nat.reduceEqDiff, Nat.reduceAdd, Nat.reduceLT, Nat.reduceMul]
    have e0 := Jce p h
    exact e0
  · have h1n : ((x0.Kind : Int) != 1) = true := by rw [bne, h1]; rfl
    try simp only [↓Da, Ua, J6Z, Ja, J8, Jh, *, ↓reduceIte, Nat.reduceEqDiff, Nat.reduceAdd, Nat.reduceLT, Nat.reduceMul]
    have e0 := Jce p h
    exact e0
theorem Jkr {x0 : J3} {o : J3 × Bool} (h : J0w x0 = some o) : AF (J2 p) J6K [.data (J4 x0)] [] = J5T o :=
  (J0s (J2 p) (Jku p) rfl).trans (Jgi p h)
theorem Jkx {x0 : J3} {o : J3 × Bool} (h : J0w x0 = some o) : ∀ ws new st, (Jo (AF (J2 p)) J6K ([.data (J4 x0)], ws) 0 new).run st = some ⟨.tup [.data (J4 o.1), .p (.b o.2)], ws⟩ := JN rfl (Jkr p h) rfl
end
end Go.Am
end
