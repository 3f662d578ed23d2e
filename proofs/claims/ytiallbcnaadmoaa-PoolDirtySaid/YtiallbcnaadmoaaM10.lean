/-
  Parts of a proof: YtiallbcnaadmoaaKS2, YtiallbcnaadmoaaKS3, YtiallbcnaadmoaaKSz, YtiallbcnaadmoaaPlain, YtiallbcnaadmoaaPlain2, YtiallbcnaadmoaaCrc, YtiallbcnaadmoaaPlain3, YtiallbcnaadmoaaPlain4, YtiallbcnaadmoaaBack, YtiallbcnaadmoaaBack2, YtiallbcnaadmoaaBack3, YtiallbcnaadmoaaBack4, YtiallbcnaadmoaaBack5, YtiallbcnaadmoaaInj, YtiallbcnaadmoaaInj2.
-/
import Derived.Test.YtiallbcnaadmoaaM9
set_option linter.unusedSimpArgs false
set_option linter.unusedVariables false
section
namespace Go.Am
set_option maxRecDepth 8000
set_option maxHeartbeats 4000000
set_option linter.unusedSimpArgs false
set_option linter.unusedVariables false
noncomputable section
variable (p : FuncId → Option (List AV → List Blk → Option Res))
def Jaz  (r : Bool) : Option Res := some (.p (.b r), [])
def J18 (x0 : J9) : Option (Bool) :=
  Option.bind (J38 x0.ID) fun r1 =>
  if r1 then
    if (decide (x0.LSN ≥ 0)) then
      some (decide (x0.LSN ≤ 1099511627776))
    else
      some false
  else
    some false
theorem Jc0 {x0 : J9} {o : Bool} (h : J18 x0 = some o) :
    rk (J5 p) J40 0 [] (X (J5 p) J2a ⟨[(0, .data (Ja x0))], []⟩) = Jaz o := by
  unfold J18 at h
  obtain ⟨r1, h2, h⟩ := bi h
  have f3 := JgH p h2
  try simp only [Nf] at f3
  try simp only [↓Da, Ua, J2a, J2, J0, J1, *, ↓reduceIte, Nat.reduceEqDiff, Nat.reduceAdd, Nat.reduceLT, Nat.reduceMul]
  rcases Jg h with ⟨h4, h⟩ | ⟨h4, h⟩
  · try simp only [↓Da, Ua, J2a, J2, J0, J1, *, ↓reduceIte, Nat.reduceEqDiff, Nat.reduceAdd, Nat.reduceLT, Nat.reduceMul]
    rcases Jg h with ⟨h5, h⟩ | ⟨h5, h⟩
    · obtain rfl := sj h
      try simp only [↓Da, Ua, J2a, J2, J0, J1, J81, *, ↓reduceIte, Nat.reduceEqDiff, Nat.reduceAdd, Nat.reduceLT, Nat.reduceMul]
      rfl
    · obtain rfl := sj h
      try simp only [↓Da, Ua, J2a, J2, J0, J1, J81, *, ↓reduceIte, Nat.reduceEqDiff, Nat.reduceAdd, Nat.reduceLT, Nat.reduceMul]
      rfl
  · obtain rfl := sj h
    try simp only [↓Da, Ua, J2a, J2, J0, J1, J81, *, ↓reduceIte, Nat.reduceEqDiff, Nat.reduceAdd, Nat.reduceLT, Nat.reduceMul]
    rfl
theorem JfY {x0 : J9} {o : Bool} (h : J18 x0 = some o) : AF (J5 p) J3h [.data (Ja x0)] [] = Jaz o :=
  (J1e (J5 p) (JfJ p) rfl).trans (Jc0 p h)
theorem JaA {x0 : J9} {o : Bool} (h : J18 x0 = some o) : ∀ ws new st, (Jr (AF (J5 p)) J3h ([.data (Ja x0)], ws) 0 new).run st = some ⟨.p (.b o), ws⟩ := JD rfl (JfY p h) rfl
def J5E  (r : T_page_builder) : Option Res := some (.tup [], [.box (List.map AV.p (J0o r))])
def J1A (x4 : Int) (b0 : T_page_builder) (b1 : Je) : Option (T_page_builder) :=
  Option.bind (J3D b0.s_ x4 1) fun r1 =>
  Option.bind (J9h r1 b1.Data) fun s5 =>
  Option.bind (J2V ([0]) (IntKind.wrap .i64 (12 - ((List.length b1.Data : Nat) : Int)))) fun r7 =>
  Option.bind (J9h s5 r7) fun s11 =>
  some (⟨s11⟩ : T_page_builder)
theorem J74 {x4 : Int} {b0 : T_page_builder} {b1 : Je} {o : T_page_builder} (h : J1A x4 b0 b1 = some o) :
    rk (J5 p) J1v 1 [] (X (J5 p) J4L ⟨[(0, .ptr 0 0), (3, .ptr 1 0), (4, .p (.i .i64 x4))], [.box (List.map AV.p (J0o b0)), .box (List.map AV.p (Jf b1))]⟩) = J5E o := by
  unfold J1A at h
  obtain ⟨r1, h2, h⟩ := bi h
  have f3 := J6O p h2
  try simp only [Nf, Jt] at f3
  have f4 : ∀ ws k new s, Jd ((Jr (AF (J5 p)) J1f ([.p (.s b0.s_), .p (.i .i64 x4), .p (.i .i64 1)], ws) k new).reads s) = [] := J0W rfl
  try simp only [Nf, Jt] at f4
  obtain ⟨s5, h6, h⟩ := bi h
  obtain ⟨r7, h8, h⟩ := bi h
  have f9 := J8G p h8
  try simp only [Nf, Jt] at f9
  have f10 : ∀ ws k new s, Jd ((Jr (AF (J5 p)) J1I ([.p (.s [0]), .p (.i .i64 (IntKind.wrap .i64 (12 - ((List.length b1.Data : Nat) : Int))))], ws) k new).reads s) = [] := J0W rfl
  try simp only [Nf, Jt] at f10
  obtain ⟨s11, h12, h⟩ := bi h
  obtain rfl := sj h
  try simp only [↓Da, Ua, Ra, J4L, J2, Jt, JaU, *, ↓reduceIte, Nat.reduceEqDiff, Nat.reduceAdd, Nat.reduceLT, Nat.reduceMul, Nat.reduceBEq]
  rfl
def J1Z (b0 : T_page_builder) (x1 : Je) : Option (T_page_builder) :=
  if x1.Set then
    J1A ((List.length x1.Data : Nat) : Int) b0 x1
  else
    J1A 255 b0 x1
theorem J8Q {b0 : T_page_builder} {x1 : Je} {o : T_page_builder} (h : J1Z b0 x1 = some o) :
    rk (J5 p) J1v 1 [] (X (J5 p) J1V ⟨[(0, .ptr 0 0), (1, .data (Jf x1))], [.box (List.map AV.p (J0o b0))]⟩) = J5E o := by
  unfold J1Z at h
  rcases Jg h with ⟨h1, h⟩ | ⟨h1, h⟩
  · try simp only [↓Da, Ua, J1V, J2, Jt, *, ↓reduceIte, Nat.reduceEqDiff, Nat.reduceAdd, Nat.reduceLT, Nat.reduceMul]
    have e0 := J74 p h
    first | exact e0 | (simp only [*] at e0; exact e0)
  · try simp only [↓Da, Ua, J1V, J2, Jt, *, ↓reduceIte, Nat.reduceEqDiff, Nat.reduceAdd, Nat.reduceLT, Nat.reduceMul]
    have e0 := J74 p h
    first | exact e0 | (simp only [*] at e0; exact e0)
theorem JaI {b0 : T_page_builder} {x1 : Je} {o : T_page_builder} (h : J1Z b0 x1 = some o) : AF (J5 p) J0E [.ptr 0 0, .data (Jf x1)] [.box (List.map AV.p (J0o b0))] = J5E o :=
  (J1e (J5 p) (JaK p) rfl).trans (J8Q p h)
def J5v  (r : Int) : Option Res := some (.p (.i .u32 r), [])
def JfU (x0 : List UInt8) (x8 : Int) (b0 : Vector Int 16) (o : (Int × Int) ⊕ (Int)) : Option Res := match o with
  | .inl s => rk (J5 p) J23 0 [.bl 0, .sq (.keep [4] J3p)] (X (J5 p) (.lp 1 [0, 3, 4, 8, 9] J2H) ⟨[(0, .p (.s x0)), (3, .ptr 0 0), (4, .p (.i .u32 s.1)), (8, .p (.i .i64 x8)), (9, .p (.i .i64 s.2))], [.box (List.map AV.p ((JM (r_i .u32)) b0))]⟩)
  | .inr o => J5v o
def J5n (x4 : Int) : Option (Int) :=
  some (JkQ .u32 x4)
theorem JfS {x4 : Int} {B0 : List PV} {o : Int} (h : J5n x4 = some o) :
    rk (J5 p) J23 0 [] (X (J5 p) J3p ⟨[(4, .p (.i .u32 x4))], [.box (List.map AV.p B0)]⟩) = J5v o := by
  unfold J5n at h
  obtain rfl := sj h
  try simp only [↓Da, Ua, J3p, Jik, ↓reduceIte, Nat.reduceEqDiff, Nat.reduceAdd, Nat.reduceLT, Nat.reduceMul]
  rfl
def J1J (x0 : List UInt8) (x8 : Int) (b0 : Vector Int 16) (x4 : Int) (x9 : Int) : Option (((Int × Int) ⊕ (Int))) :=
  if (decide (x9 < x8)) then
    Option.bind (JeL x0 x9) fun c2 =>
    Option.bind (J9i .u32 (J4V .u32 x4 (IntKind.wrap .u32 c2)) 4) fun q4 =>
    Option.bind (inb 16 (J3B .u32 (J4V .u32 x4 (IntKind.wrap .u32 c2)) 15)) fun u6 =>
    Option.bind (J7G b0 (J3B .u32 (J4V .u32 x4 (IntKind.wrap .u32 c2)) 15)) fun y9 =>
    Option.bind (J9i .u32 (J4V .u32 q4 y9) 4) fun q12 =>
    Option.bind (inb 16 (J3B .u32 (J4V .u32 q4 y9) 15)) fun u14 =>
    Option.bind (J7G b0 (J3B .u32 (J4V .u32 q4 y9) 15)) fun y17 =>
    some (.inl ((J4V .u32 q12 y17), (IntKind.wrap .i64 (x9 + 1))))
  else
    Option.map (fun o => .inr o) (J5n x4)
theorem JaG {x0 : List UInt8} {x8 : Int} {b0 : Vector Int 16} {x4 : Int} {x9 : Int} {o : ((Int × Int) ⊕ (Int))} (h : J1J x0 x8 b0 x4 x9 = some o) :
    rk (J5 p) J23 0 [.lo 1 [0, 3, 4, 8, 9] J2H, .bl 0, .sq (.keep [4] J3p)] (X (J5 p) J2H ⟨[(0, .p (.s x0)), (3, .ptr 0 0), (4, .p (.i .u32 x4)), (8, .p (.i .i64 x8)), (9, .p (.i .i64 x9))], [.box (List.map AV.p ((JM (r_i .u32)) b0))]⟩) = (JfU p x0 x8 b0) o := by
  unfold J1J at h
  rcases Jg h with ⟨h1, h⟩ | ⟨h1, h⟩
  · obtain ⟨c2, h3, h⟩ := bi h
    obtain ⟨q4, h5, h⟩ := bi h
    obtain ⟨u6, h7, h⟩ := bi h
    have f8 : (0 ≤ ((J3B .u32 (J4V .u32 x4 (IntKind.wrap .u32 c2)) 15) : Int) ∧ ((J3B .u32 (J4V .u32 x4 (IntKind.wrap .u32 c2)) 15) : Int) < ((16 : Nat) : Int)) = True := eq_true (JbK h7)
    obtain ⟨y9, h10, h⟩ := bi h
    have f11 : sub ((JM (r_i .u32)) b0) (Int.toNat (J3B .u32 (J4V .u32 x4 (IntKind.wrap .u32 c2)) 15) * 1) 1 = some ((r_i .u32) y9) := by
      have e0 := (J9F (v := b0) (J7H .u32) (J56 h10).2)
      exact e0
    try simp only [Nf] at f11
    obtain ⟨q12, h13, h⟩ := bi h
    obtain ⟨u14, h15, h⟩ := bi h
    have f16 : (0 ≤ ((J3B .u32 (J4V .u32 q4 y9) 15) : Int) ∧ ((J3B .u32 (J4V .u32 q4 y9) 15) : Int) < ((16 : Nat) : Int)) = True := eq_true (JbK h15)
    obtain ⟨y17, h18, h⟩ := bi h
    have f19 : sub ((JM (r_i .u32)) b0) (Int.toNat (J3B .u32 (J4V .u32 q4 y9) 15) * 1) 1 = some ((r_i .u32) y17) := by
      have e0 := (J9F (v := b0) (J7H .u32) (J56 h18).2)
      exact e0
    try simp only [Nf] at f19
    obtain rfl := sj h
    try simp only [↓Da, Ua, J2H, J4x, *, ↓reduceIte, Nat.reduceEqDiff, Nat.reduceAdd, Nat.reduceLT, Nat.reduceMul]
    rfl
  · obtain ⟨o', h', rfl⟩ := mi h
    try simp only [↓Da, Ua, J2H, J4x, *, ↓reduceIte, Nat.reduceEqDiff, Nat.reduceAdd, Nat.reduceLT, Nat.reduceMul]
    have e0 := JfS p (B0 := ((JM (r_i .u32)) b0)) h'
    first | exact e0 | (simp only [*] at e0; exact e0)
def JaD (x0 : List UInt8) (x8 : Int) (b0 : Vector Int 16) (s : Int × Int) : Option (Int) :=
  J03 (fun s => J1J x0 x8 b0 s.1 s.2) s
theorem Je5 {x0 : List UInt8} {x8 : Int} {b0 : Vector Int 16} {s : Int × Int} {o : Int} (h : JaD x0 x8 b0 s = some o) :
    rk (J5 p) J23 0 [.bl 0, .sq (.keep [4] J3p)] (X (J5 p) (.lp 1 [0, 3, 4, 8, 9] J2H) ⟨[(0, .p (.s x0)), (3, .ptr 0 0), (4, .p (.i .u32 s.1)), (8, .p (.i .i64 x8)), (9, .p (.i .i64 s.2))], [.box (List.map AV.p ((JM (r_i .u32)) b0))]⟩) = J5v o := by
  have h0 : J03 (fun s => J1J x0 x8 b0 s.1 s.2) s = some o := h
  exact J3a (P := fun (s : Int × Int) (o : Int) => rk (J5 p) J23 0 [.bl 0, .sq (.keep [4] J3p)] (X (J5 p) (.lp 1 [0, 3, 4, 8, 9] J2H) ⟨[(0, .p (.s x0)), (3, .ptr 0 0), (4, .p (.i .u32 s.1)), (8, .p (.i .i64 x8)), (9, .p (.i .i64 s.2))], [.box (List.map AV.p ((JM (r_i .u32)) b0))]⟩) = J5v o) (fun s r hs => by rw [J2L]; exact JaG p hs) (fun s s1 r hs ih => by rw [J2L]; exact (JaG p hs).trans ih) h0
def J21 (x0 : List UInt8) : Option (Int) :=
  Option.bind (J1D) fun r1 =>
  JaD x0 ((List.length x0 : Nat) : Int) r1 (4294967295, 0)
theorem JdD {x0 : List UInt8} {o : Int} (h : J21 x0 = some o) :
    rk (J5 p) J23 0 [] (X (J5 p) J6K ⟨[(0, .p (.s x0))], []⟩) = J5v o := by
  unfold J21 at h
  obtain ⟨r1, h2, h⟩ := bi h
  have f3 := JbB p h2
  try simp only [Nf] at f3
  try simp only [↓Da, Ua, J6K, J4x, *, ↓reduceIte, Nat.reduceEqDiff, Nat.reduceAdd, Nat.reduceLT, Nat.reduceMul]
  have e0 := Je5 p h
  first | exact e0 | (simp only [*] at e0; exact e0)
theorem JhY {x0 : List UInt8} {o : Int} (h : J21 x0 = some o) : AF (J5 p) J4A [.p (.s x0)] [] = J5v o :=
  (J1e (J5 p) (JhS p) rfl).trans (JdD p h)
theorem Jie {x0 : List UInt8} {o : Int} (h : J21 x0 = some o) : ∀ ws new st, (Jr (AF (J5 p)) J4A ([.p (.s x0)], ws) 0 new).run st = some ⟨.p (.i .u32 o), ws⟩ := JD rfl (JhY p h) rfl
def J78  (r : (List T_api_Frame)) : Option Res := some (.p (.sl 37 (List.map J3 r)), [])
def J0i (x0 : List T_api_Frame) (x1 : Int) (x2 : T_api_Frame) : Option ((List T_api_Frame)) :=
  Option.bind (JS x0) fun r1 =>
  Option.bind (idx r1 x1) fun y4 =>
  Option.bind (some (List.set r1 (Int.toNat x1) x2)) fun m8 =>
  some m8
theorem J8d {x0 : List T_api_Frame} {x1 : Int} {x2 : T_api_Frame} {o : (List T_api_Frame)} (h : J0i x0 x1 x2 = some o) :
    rk (J5 p) J1z 0 [] (X (J5 p) J2b ⟨[(0, .p (.sl 37 (List.map J3 x0))), (1, .p (.i .i64 x1)), (2, .data (J3 x2))], []⟩) = J78 o := by
  unfold J0i at h
  obtain ⟨r1, h2, h⟩ := bi h
  have f3 : ∀ ws new s, (Jr (AF (J5 p)) Jz ([.p (.sl 37 (List.map J3 x0))], ws) 1 new).run s = some ⟨.slr new 0 (List.length r1), ws ++ [(new, .arr true 37 (List.map J3 r1))]⟩ := J9T rfl (J1R p h2)
  try simp only [Nf] at f3
  obtain ⟨y4, h5, h⟩ := bi h
  have f6 := Jd9 (r := J3) h5
  try simp only [Nf] at f6
  have f7 : (0 ≤ (x1 : Int) ∧ (x1 : Int) < (((List.length r1) : Nat) : Int)) = True := eq_true (by have e0 := JeC h5; (try simp only [List.length_cons, List.length_nil, Nat.zero_add] at e0); omega)
  obtain ⟨m8, h9, h⟩ := bi h
  have f10 : List.set (List.map J3 r1) (Int.toNat x1) (J3 x2) = List.map J3 m8 := by
    rw [← Option.some.inj h9, List.map_set]
  try simp only [Nf] at f10
  have g11 : List.length m8 = List.length r1 := by rw [← Option.some.inj h9, List.length_set]
  obtain rfl := sj h
  try simp only [↓Da, Ua, J2b, J2, J0, J1, J4, J9O, *, ↓reduceIte, Nat.reduceEqDiff, Nat.reduceAdd, Nat.reduceLT, Nat.reduceMul]
  rfl
theorem J9K {x0 : List T_api_Frame} {x1 : Int} {x2 : T_api_Frame} {o : (List T_api_Frame)} (h : J0i x0 x1 x2 = some o) : AF (J5 p) J19 [.p (.sl 37 (List.map J3 x0)), .p (.i .i64 x1), .data (J3 x2)] [] = J78 o :=
  (J1e (J5 p) (J9r p) rfl).trans (J8d p h)
theorem J75 {x0 : List T_api_Frame} {x1 : Int} {x2 : T_api_Frame} {o : (List T_api_Frame)} (h : J0i x0 x1 x2 = some o) : ∀ ws new st, (Jr (AF (J5 p)) J19 ([.p (.sl 37 (List.map J3 x0)), .p (.i .i64 x1), .data (J3 x2)], ws) 0 new).run st = some ⟨.p (.sl 37 (List.map J3 o)), ws⟩ := JD rfl (J9K p h) rfl
def J44  (r : Bool) : Option Res := some (.p (.b r), [])
def JdT (b0 : J9) (o : (Int) ⊕ (Bool)) : Option Res := match o with
  | .inl s => rk (J5 p) J1m 0 [.bl 0, .sq (.keep [] J2r)] (X (J5 p) (.lp 1 [1, 3] J0n) ⟨[(1, .ptr 0 0), (3, .p (.i .i64 s))], [.box (List.map AV.p (Ja b0))]⟩)
  | .inr o => J44 o
def J5M  : Option (Bool) :=
  some true
theorem Je3 {B0 : List PV} {o : Bool} (h : J5M = some o) :
    rk (J5 p) J1m 0 [] (X (J5 p) J2r ⟨[], [.box (List.map AV.p B0)]⟩) = J44 o := by
  unfold J5M at h
  obtain rfl := sj h
  try simp only [↓Da, Ua, J2r, J7U, ↓reduceIte, Nat.reduceEqDiff, Nat.reduceAdd, Nat.reduceLT, Nat.reduceMul]
  rfl
def J0R (b0 : J9) (x3 : Int) : Option (((Int) ⊕ (Bool))) :=
  if (decide (x3 < 16)) then
    Option.bind (inb 16 x3) fun u2 =>
    Option.bind (J7G b0.Cells x3) fun y5 =>
    Option.bind (J0e y5) fun r8 =>
    if r8 then
      if ((b0.LSN : Int) == 0) then
        if y5.Set then
          some (.inr false)
        else
          some (.inl (IntKind.wrap .i64 (x3 + 1)))
      else
        some (.inl (IntKind.wrap .i64 (x3 + 1)))
    else
      some (.inr false)
  else
    Option.map (fun o => .inr o) (J5M)
theorem J9e {b0 : J9} {x3 : Int} {o : ((Int) ⊕ (Bool))} (h : J0R b0 x3 = some o) :
    rk (J5 p) J1m 0 [.lo 1 [1, 3] J0n, .bl 0, .sq (.keep [] J2r)] (X (J5 p) J0n ⟨[(1, .ptr 0 0), (3, .p (.i .i64 x3))], [.box (List.map AV.p (Ja b0))]⟩) = (JdT p b0) o := by
  unfold J0R at h
  rcases Jg h with ⟨h1, h⟩ | ⟨h1, h⟩
  · obtain ⟨u2, h3, h⟩ := bi h
    have f4 : (0 ≤ (x3 : Int) ∧ (x3 : Int) < ((16 : Nat) : Int)) = True := eq_true (JbK h3)
    obtain ⟨y5, h6, h⟩ := bi h
    have f7 : sub (Ja b0) (2 + Int.toNat x3 * 2) 2 = some (Jf y5) := by
      have e0 := (J4e (J62 b0) (J9F (v := b0.Cells) J07 (J56 h6).2))
      exact e0
    try simp only [Nf] at f7
    obtain ⟨r8, h9, h⟩ := bi h
    have f10 := Jcq p h9
    try simp only [Nf] at f10
    try simp only [↓Da, Ua, J0n, J2, J0, J1, *, ↓reduceIte, Nat.reduceEqDiff, Nat.reduceAdd, Nat.reduceLT, Nat.reduceMul]
    rcases Jg h with ⟨h11, h⟩ | ⟨h11, h⟩
    · try simp only [↓Da, Ua, J0n, J2, J0, J1, *, ↓reduceIte, Nat.reduceEqDiff, Nat.reduceAdd, Nat.reduceLT, Nat.reduceMul]
      rcases Jg h with ⟨h12, h⟩ | ⟨h12, h⟩
      · have h12n : ((b0.LSN : Int) != 0) = false := by rw [bne, h12]; rfl
        have f13 : sub (Ja b0) (2 + Int.toNat x3 * 2) 1 = some (r_b y5.Set) := by
          have e0 := (J4e (J4e (J62 b0) (J9F (v := b0.Cells) J07 (J56 h6).2)) (J8x y5))
          exact e0
        try simp only [Nf] at f13
        try simp only [↓Da, Ua, J0n, J2, J0, J1, *, ↓reduceIte, Nat.reduceEqDiff, Nat.reduceAdd, Nat.reduceLT, Nat.reduceMul]
        rcases Jg h with ⟨h14, h⟩ | ⟨h14, h⟩
        · obtain rfl := sj h
          try simp only [↓Da, Ua, J0n, J2, J0, J1, J7U, *, ↓reduceIte, Nat.reduceEqDiff, Nat.reduceAdd, Nat.reduceLT, Nat.reduceMul]
          rfl
        · obtain rfl := sj h
          try simp only [↓Da, Ua, J0n, J2, J0, J1, *, ↓reduceIte, Nat.reduceEqDiff, Nat.reduceAdd, Nat.reduceLT, Nat.reduceMul]
          rfl
      · have h12n : ((b0.LSN : Int) != 0) = true := by rw [bne, h12]; rfl
        obtain rfl := sj h
        try simp only [↓Da, Ua, J0n, J2, J0, J1, *, ↓reduceIte, Nat.reduceEqDiff, Nat.reduceAdd, Nat.reduceLT, Nat.reduceMul]
        rfl
    · obtain rfl := sj h
      try simp only [↓Da, Ua, J0n, J2, J0, J1, J7U, *, ↓reduceIte, Nat.reduceEqDiff, Nat.reduceAdd, Nat.reduceLT, Nat.reduceMul]
      rfl
  · obtain ⟨o', h', rfl⟩ := mi h
    try simp only [↓Da, Ua, J0n, J2, J0, J1, *, ↓reduceIte, Nat.reduceEqDiff, Nat.reduceAdd, Nat.reduceLT, Nat.reduceMul]
    have e0 := Je3 p (B0 := (Ja b0)) h'
    first | exact e0 | (simp only [*] at e0; exact e0)
def J98 (b0 : J9) (s : Int) : Option (Bool) :=
  J03 (fun s => J0R b0 s) s
theorem Jcs {b0 : J9} {s : Int} {o : Bool} (h : J98 b0 s = some o) :
    rk (J5 p) J1m 0 [.bl 0, .sq (.keep [] J2r)] (X (J5 p) (.lp 1 [1, 3] J0n) ⟨[(1, .ptr 0 0), (3, .p (.i .i64 s))], [.box (List.map AV.p (Ja b0))]⟩) = J44 o := by
  have h0 : J03 (fun s => J0R b0 s) s = some o := h
  exact J3a (P := fun (s : Int) (o : Bool) => rk (J5 p) J1m 0 [.bl 0, .sq (.keep [] J2r)] (X (J5 p) (.lp 1 [1, 3] J0n) ⟨[(1, .ptr 0 0), (3, .p (.i .i64 s))], [.box (List.map AV.p (Ja b0))]⟩) = J44 o) (fun s r hs => by rw [J2L]; exact J9e p hs) (fun s s1 r hs ih => by rw [J2L]; exact (J9e p hs).trans ih) h0
def J3o (x0 : J9) : Option (Bool) :=
  J98 x0 0
theorem Jc4 {x0 : J9} {o : Bool} (h : J3o x0 = some o) :
    rk (J5 p) J1m 0 [] (X (J5 p) J5k ⟨[(0, .data (Ja x0))], []⟩) = J44 o := by
  unfold J3o at h
  try simp only [↓Da, Ua, J5k, J2, J0, J1, ↓reduceIte, Nat.reduceEqDiff, Nat.reduceAdd, Nat.reduceLT, Nat.reduceMul]
  have e0 := Jcs p h
  first | exact e0 | (simp only [*] at e0; exact e0)
theorem JfM {x0 : J9} {o : Bool} (h : J3o x0 = some o) : AF (J5 p) J4f [.data (Ja x0)] [] = J44 o :=
  (J1e (J5 p) (JfQ p) rfl).trans (Jc4 p h)
theorem JfT {x0 : J9} {o : Bool} (h : J3o x0 = some o) : ∀ ws new st, (Jr (AF (J5 p)) J4f ([.data (Ja x0)], ws) 0 new).run st = some ⟨.p (.b o), ws⟩ := JD rfl (JfM p h) rfl
def Jb6  (r : Bool) : Option Res := some (.p (.b r), [])
def J2g (x0 : J9) : Option (Bool) :=
  Option.bind (J18 x0) fun r1 =>
  if r1 then
    Option.bind (J2u x0) fun r5 =>
    some r5
  else
    some false
theorem Jdn {x0 : J9} {o : Bool} (h : J2g x0 = some o) :
    rk (J5 p) J4Y 0 [] (X (J5 p) J3U ⟨[(0, .data (Ja x0))], []⟩) = Jb6 o := by
  unfold J2g at h
  obtain ⟨r1, h2, h⟩ := bi h
  have f3 := JaA p h2
  try simp only [Nf] at f3
  try simp only [↓Da, Ua, J3U, J2, J0, J1, *, ↓reduceIte, Nat.reduceEqDiff, Nat.reduceAdd, Nat.reduceLT, Nat.reduceMul]
  rcases Jg h with ⟨h4, h⟩ | ⟨h4, h⟩
  · obtain ⟨r5, h6, h⟩ := bi h
    have f7 := JbA p h6
    try simp only [Nf] at f7
    obtain rfl := sj h
    try simp only [↓Da, Ua, J3U, J2, J0, J1, Jb1, *, ↓reduceIte, Nat.reduceEqDiff, Nat.reduceAdd, Nat.reduceLT, Nat.reduceMul]
    rfl
  · obtain rfl := sj h
    try simp only [↓Da, Ua, J3U, J2, J0, J1, Jb1, *, ↓reduceIte, Nat.reduceEqDiff, Nat.reduceAdd, Nat.reduceLT, Nat.reduceMul]
    rfl
theorem Jgp {x0 : J9} {o : Bool} (h : J2g x0 = some o) : AF (J5 p) J4M [.data (Ja x0)] [] = Jb6 o :=
  (J1e (J5 p) (Jgt p) rfl).trans (Jdn p h)
theorem Jhk {x0 : J9} {o : Bool} (h : J2g x0 = some o) : ∀ ws new st, (Jr (AF (J5 p)) J4M ([.data (Ja x0)], ws) 0 new).run st = some ⟨.p (.b o), ws⟩ := JD rfl (Jgp p h) rfl
def J47  (r : (List UInt8) × Int) : Option Res := some (.tup [.p (.s r.1), .p (.i .i64 r.2)], [])
def JdI (x28 : Vector Je 16) (b0 : J9) (o : (Int × T_page_builder) ⊕ ((List UInt8) × Int)) : Option Res := match o with
  | .inl s => rk (J5 p) J1l 0 [.bl 1, .td 2 [1, 2, 3, 4], .sq (.keep [1, 4] J2k)] (X (J5 p) (.lp 2 [1, 4, 5, 28, 29] J1T) ⟨[(1, .ptr 0 0), (4, .ptr 1 0), (5, .fn J0E [.ptr 1 0] []), (28, .data ((JM Jf) x28)), (29, .p (.i .i64 s.1))], [.box (List.map AV.p (Ja b0)), .box (List.map AV.p (J0o s.2))]⟩)
  | .inr o => J47 o
def J5T (b0 : J9) (b1 : T_page_builder) : Option ((List UInt8) × Int) :=
  Option.bind (J2V ([0]) (IntKind.wrap .i64 (244 - ((List.length b1.s_ : Nat) : Int)))) fun r1 =>
  Option.bind (J9h b1.s_ r1) fun s5 =>
  Option.bind (J21 s5) fun r7 =>
  Option.bind (J3D s5 (IntKind.wrap .i64 r7) 4) fun r11 =>
  Option.bind (J3D r11 b0.LSN 8) fun r15 =>
  some (r15, 0)
theorem Jeb {b0 : J9} {b1 : T_page_builder} {o : (List UInt8) × Int} (h : J5T b0 b1 = some o) :
    rk (J5 p) J1l 0 [] (X (J5 p) J2k ⟨[(1, .ptr 0 0), (4, .ptr 1 0)], [.box (List.map AV.p (Ja b0)), .box (List.map AV.p (J0o b1))]⟩) = J47 o := by
  unfold J5T at h
  obtain ⟨r1, h2, h⟩ := bi h
  have f3 := J8G p h2
  try simp only [Nf, Jt] at f3
  have f4 : ∀ ws k new s, Jd ((Jr (AF (J5 p)) J1I ([.p (.s [0]), .p (.i .i64 (IntKind.wrap .i64 (244 - ((List.length b1.s_ : Nat) : Int))))], ws) k new).reads s) = [] := J0W rfl
  try simp only [Nf, Jt] at f4
  obtain ⟨s5, h6, h⟩ := bi h
  obtain ⟨r7, h8, h⟩ := bi h
  have f9 := Jie p h8
  try simp only [Nf, Jt] at f9
  have f10 : ∀ ws k new s, Jd ((Jr (AF (J5 p)) J4A ([.p (.s s5)], ws) k new).reads s) = [] := J0W rfl
  try simp only [Nf, Jt] at f10
  obtain ⟨r11, h12, h⟩ := bi h
  have f13 := J6O p h12
  try simp only [Nf, Jt] at f13
  have f14 : ∀ ws k new s, Jd ((Jr (AF (J5 p)) J1f ([.p (.s s5), .p (.i .i64 (IntKind.wrap .i64 r7)), .p (.i .i64 4)], ws) k new).reads s) = [] := J0W rfl
  try simp only [Nf, Jt] at f14
  obtain ⟨r15, h16, h⟩ := bi h
  have f17 := J6O p h16
  try simp only [Nf, Jt] at f17
  have f18 : ∀ ws k new s, Jd ((Jr (AF (J5 p)) J1f ([.p (.s r11), .p (.i .i64 b0.LSN), .p (.i .i64 8)], ws) k new).reads s) = [] := J0W rfl
  try simp only [Nf, Jt] at f18
  obtain rfl := sj h
  try simp only [↓Da, Ua, Ra, J2k, J2, J0, J1, Jt, J7Y, *, ↓reduceIte, Nat.reduceEqDiff, Nat.reduceAdd, Nat.reduceLT, Nat.reduceMul, Nat.reduceBEq]
  rfl
def J2t (x28 : Vector Je 16) (b0 : J9) (x29 : Int) (b1 : T_page_builder) : Option (((Int × T_page_builder) ⊕ ((List UInt8) × Int))) :=
  if (decide (x29 < 16)) then
    Option.bind (J7G x28 x29) fun y2 =>
    Option.bind (J1Z b1 y2) fun r6 =>
    some (.inl ((IntKind.wrap .i64 (x29 + 1)), r6))
  else
    Option.map (fun o => .inr o) (J5T b0 b1)
theorem J99 {x28 : Vector Je 16} {b0 : J9} {x29 : Int} {b1 : T_page_builder} {o : ((Int × T_page_builder) ⊕ ((List UInt8) × Int))} (h : J2t x28 b0 x29 b1 = some o) :
    rk (J5 p) J1l 0 [.lo 2 [1, 4, 5, 28, 29] J1T, .bl 1, .td 2 [1, 2, 3, 4], .sq (.keep [1, 4] J2k)] (X (J5 p) J1T ⟨[(1, .ptr 0 0), (4, .ptr 1 0), (5, .fn J0E [.ptr 1 0] []), (28, .data ((JM Jf) x28)), (29, .p (.i .i64 x29))], [.box (List.map AV.p (Ja b0)), .box (List.map AV.p (J0o b1))]⟩) = (JdI p x28 b0) o := by
  unfold J2t at h
  rcases Jg h with ⟨h1, h⟩ | ⟨h1, h⟩
  · obtain ⟨y2, h3, h⟩ := bi h
    have f4 : (0 ≤ (x29 : Int) ∧ (x29 : Int) < ((16 : Nat) : Int)) = True := eq_true (J56 h3).1
    have f5 : sub (JM Jf x28) (Int.toNat x29 * 2) 2 = some (Jf y2) := J9F J07 (J56 h3).2
    try simp only [Nf, Jt] at f5
    obtain ⟨r6, h7, h⟩ := bi h
    have f8 : ∀ ws new s, J2Q ws s [1] [List.map AV.p (J0o b1)] → (Jr (AF (J5 p)) J0E ([.ptr 1 0, .data (Jf y2)], ws) 0 new).run s = some ⟨.tup [], ws ++ [(1, .box (List.map AV.p (J0o r6)))]⟩ := J3F (args' := [.ptr 0 0, .data (Jf y2)]) (bs := [1]) (css := [List.map AV.p (J0o b1)]) (css' := [List.map AV.p (J0o r6)]) rfl rfl rfl (by simp [J0J, JV]) (JaI p h7) rfl rfl (by simp [J0J, JV])
    try simp only [Nf, Jt] at f8
    obtain rfl := sj h
    try simp only [↓Da, Ua, J1T, J2, Jt, *, ↓reduceIte, Nat.reduceEqDiff, Nat.reduceAdd, Nat.reduceLT, Nat.reduceMul]
    rfl
  · obtain ⟨o', h', rfl⟩ := mi h
    try simp only [↓Da, Ua, J1T, J2, Jt, *, ↓reduceIte, Nat.reduceEqDiff, Nat.reduceAdd, Nat.reduceLT, Nat.reduceMul]
    have e0 := Jeb p h'
    first | exact e0 | (simp only [*] at e0; exact e0)
def J95 (x28 : Vector Je 16) (b0 : J9) (s : Int × T_page_builder) : Option ((List UInt8) × Int) :=
  J03 (fun s => J2t x28 b0 s.1 s.2) s
theorem Jc8 {x28 : Vector Je 16} {b0 : J9} {s : Int × T_page_builder} {o : (List UInt8) × Int} (h : J95 x28 b0 s = some o) :
    rk (J5 p) J1l 0 [.bl 1, .td 2 [1, 2, 3, 4], .sq (.keep [1, 4] J2k)] (X (J5 p) (.lp 2 [1, 4, 5, 28, 29] J1T) ⟨[(1, .ptr 0 0), (4, .ptr 1 0), (5, .fn J0E [.ptr 1 0] []), (28, .data ((JM Jf) x28)), (29, .p (.i .i64 s.1))], [.box (List.map AV.p (Ja b0)), .box (List.map AV.p (J0o s.2))]⟩) = J47 o := by
  have h0 : J03 (fun s => J2t x28 b0 s.1 s.2) s = some o := h
  exact J3a (P := fun (s : Int × T_page_builder) (o : (List UInt8) × Int) => rk (J5 p) J1l 0 [.bl 1, .td 2 [1, 2, 3, 4], .sq (.keep [1, 4] J2k)] (X (J5 p) (.lp 2 [1, 4, 5, 28, 29] J1T) ⟨[(1, .ptr 0 0), (4, .ptr 1 0), (5, .fn J0E [.ptr 1 0] []), (28, .data ((JM Jf) x28)), (29, .p (.i .i64 s.1))], [.box (List.map AV.p (Ja b0)), .box (List.map AV.p (J0o s.2))]⟩) = J47 o) (fun s r hs => by rw [J2L]; exact J99 p hs) (fun s s1 r hs ih => by rw [J2L]; exact (J99 p hs).trans ih) h0
def J26 (x0 : J9) : Option ((List UInt8) × Int) :=
  Option.bind (J18 x0) fun r1 =>
  if r1 then
    Option.bind (J2u x0) fun r5 =>
    if r5 then
      Option.bind (J3D ([]) x0.LSN 8) fun r9 =>
      Option.bind (J3D r9 x0.ID 4) fun r13 =>
      J95 x0.Cells x0 (0, (⟨r13⟩ : T_page_builder))
    else
      some (([] : List UInt8), 22)
  else
    some (([] : List UInt8), 1)
theorem Jce {x0 : J9} {o : (List UInt8) × Int} (h : J26 x0 = some o) :
    rk (J5 p) J1l 0 [] (X (J5 p) J24 ⟨[(0, .data (Ja x0))], []⟩) = J47 o := by
  unfold J26 at h
  obtain ⟨r1, h2, h⟩ := bi h
  have f3 := JaA p h2
  try simp only [Nf, Jt] at f3
  try simp only [↓Da, Ua, Ra, J24, J2, J0, J1, Jt, *, ↓reduceIte, Nat.reduceEqDiff, Nat.reduceAdd, Nat.reduceLT, Nat.reduceMul, Nat.reduceBEq]
  rcases Jg h with ⟨h4, h⟩ | ⟨h4, h⟩
  · obtain ⟨r5, h6, h⟩ := bi h
    have f7 := JbA p h6
    try simp only [Nf, Jt] at f7
    try simp only [↓Da, Ua, Ra, J24, J2, J0, J1, Jt, *, ↓reduceIte, Nat.reduceEqDiff, Nat.reduceAdd, Nat.reduceLT, Nat.reduceMul, Nat.reduceBEq]
    rcases Jg h with ⟨h8, h⟩ | ⟨h8, h⟩
    · obtain ⟨r9, h10, h⟩ := bi h
      have f11 := J6O p h10
      try simp only [Nf, Jt] at f11
      have f12 : ∀ ws k new s, Jd ((Jr (AF (J5 p)) J1f ([.p (.s []), .p (.i .i64 x0.LSN), .p (.i .i64 8)], ws) k new).reads s) = [] := J0W rfl
      try simp only [Nf, Jt] at f12
      obtain ⟨r13, h14, h⟩ := bi h
      have f15 := J6O p h14
      try simp only [Nf, Jt] at f15
      have f16 : ∀ ws k new s, Jd ((Jr (AF (J5 p)) J1f ([.p (.s r9), .p (.i .i64 x0.ID), .p (.i .i64 4)], ws) k new).reads s) = [] := J0W rfl
      try simp only [Nf, Jt] at f16
      try simp only [↓Da, Ua, Ra, J24, J2, J0, J1, Jt, *, ↓reduceIte, Nat.reduceEqDiff, Nat.reduceAdd, Nat.reduceLT, Nat.reduceMul, Nat.reduceBEq]
      have e0 := Jc8 p h
      first | exact e0 | (simp only [*] at e0; exact e0)
    · obtain rfl := sj h
      try simp only [↓Da, Ua, Ra, J24, J2, J0, J1, Jt, J7Y, *, ↓reduceIte, Nat.reduceEqDiff, Nat.reduceAdd, Nat.reduceLT, Nat.reduceMul, Nat.reduceBEq]
      rfl
  · obtain rfl := sj h
    try simp only [↓Da, Ua, Ra, J24, J2, J0, J1, Jt, J7Y, *, ↓reduceIte, Nat.reduceEqDiff, Nat.reduceAdd, Nat.reduceLT, Nat.reduceMul, Nat.reduceBEq]
    rfl
theorem JfH {x0 : J9} {o : (List UInt8) × Int} (h : J26 x0 = some o) : AF (J5 p) J3m [.data (Ja x0)] [] = J47 o :=
  (J1e (J5 p) (JfR p) rfl).trans (Jce p h)
theorem JaB {x0 : J9} {o : (List UInt8) × Int} (h : J26 x0 = some o) : ∀ ws new st, (Jr (AF (J5 p)) J3m ([.data (Ja x0)], ws) 0 new).run st = some ⟨.tup [.p (.s o.1), .p (.i .i64 o.2)], ws⟩ := JD rfl (JfH p h) rfl
def JaE  (r : Bool) : Option Res := some (.p (.b r), [])
def J2I (x0 : J9) : Option (Bool) :=
  Option.bind (J2s x0) fun r1 =>
  if r1 then
    Option.bind (J3o x0) fun r5 =>
    some r5
  else
    some false
theorem Jco {x0 : J9} {o : Bool} (h : J2I x0 = some o) :
    rk (J5 p) J46 0 [] (X (J5 p) J3k ⟨[(0, .data (Ja x0))], []⟩) = JaE o := by
  unfold J2I at h
  obtain ⟨r1, h2, h⟩ := bi h
  have f3 := Jds p h2
  try simp only [Nf] at f3
  try simp only [↓Da, Ua, J3k, J2, J0, J1, *, ↓reduceIte, Nat.reduceEqDiff, Nat.reduceAdd, Nat.reduceLT, Nat.reduceMul]
  rcases Jg h with ⟨h4, h⟩ | ⟨h4, h⟩
  · obtain ⟨r5, h6, h⟩ := bi h
    have f7 := JfT p h6
    try simp only [Nf] at f7
    obtain rfl := sj h
    try simp only [↓Da, Ua, J3k, J2, J0, J1, Jav, *, ↓reduceIte, Nat.reduceEqDiff, Nat.reduceAdd, Nat.reduceLT, Nat.reduceMul]
    rfl
  · obtain rfl := sj h
    try simp only [↓Da, Ua, J3k, J2, J0, J1, Jav, *, ↓reduceIte, Nat.reduceEqDiff, Nat.reduceAdd, Nat.reduceLT, Nat.reduceMul]
    rfl
theorem Jg2 {x0 : J9} {o : Bool} (h : J2I x0 = some o) : AF (J5 p) J3Z [.data (Ja x0)] [] = JaE o :=
  (J1e (J5 p) (JfK p) rfl).trans (Jco p h)
theorem Jg8 {x0 : J9} {o : Bool} (h : J2I x0 = some o) : ∀ ws new st, (Jr (AF (J5 p)) J3Z ([.data (Ja x0)], ws) 0 new).run st = some ⟨.p (.b o), ws⟩ := JD rfl (Jg2 p h) rfl
def J4S  (r : Bool) : Option Res := some (.p (.b r), [])
def JeI (x36 : List T_api_Frame) (x37 : Int) (b0 : T_api_Pool) (o : (Int) ⊕ (Bool)) : Option Res := match o with
  | .inl s => rk (J5 p) J1E 0 [.bl 0, .td 1 [2], .sq (.keep [] J2Z)] (X (J5 p) (.lp 1 [1, 36, 37, 38] JP) ⟨[(1, .ptr 0 0), (36, .p (.sl 37 (List.map J3 x36))), (37, .p (.i .i64 x37)), (38, .p (.i .i64 s))], [.box (List.map AV.p (J6 b0))]⟩)
  | .inr o => J4S o
def J6y  : Option (Bool) :=
  some true
theorem Jem {B0 : List PV} {o : Bool} (h : J6y = some o) :
    rk (J5 p) J1E 0 [] (X (J5 p) J2Z ⟨[], [.box (List.map AV.p B0)]⟩) = J4S o := by
  unfold J6y at h
  obtain rfl := sj h
  try simp only [↓Da, Ua, J2Z, J1B, ↓reduceIte, Nat.reduceEqDiff, Nat.reduceAdd, Nat.reduceLT, Nat.reduceMul]
  rfl
def J2U (x36 : List T_api_Frame) (x37 : Int) (b0 : T_api_Pool) (x38 : Int) : Option (((Int) ⊕ (Bool))) :=
  if (decide (x38 < x37)) then
    Option.bind (idx x36 x38) fun y2 =>
    Option.bind (J2g y2.Page) fun r5 =>
    if r5 then
      Option.bind (J10 b0 y2.Page.ID) fun r10 =>
      if ((r10 : Int) != x38) then
        some (.inr false)
      else
        if y2.Dirty then
          if (decide (y2.Rec < 1)) then
            some (.inr false)
          else
            if (decide (y2.Rec > y2.Page.LSN)) then
              some (.inr false)
            else
              some (.inl (IntKind.wrap .i64 (x38 + 1)))
        else
          if ((y2.Rec : Int) != 0) then
            some (.inr false)
          else
            some (.inl (IntKind.wrap .i64 (x38 + 1)))
    else
      some (.inr false)
  else
    Option.map (fun o => .inr o) (J6y)
theorem J9u {x36 : List T_api_Frame} {x37 : Int} {b0 : T_api_Pool} {x38 : Int} {o : ((Int) ⊕ (Bool))} (h : J2U x36 x37 b0 x38 = some o) :
    rk (J5 p) J1E 0 [.lo 1 [1, 36, 37, 38] JP, .bl 0, .td 1 [2], .sq (.keep [] J2Z)] (X (J5 p) JP ⟨[(1, .ptr 0 0), (36, .p (.sl 37 (List.map J3 x36))), (37, .p (.i .i64 x37)), (38, .p (.i .i64 x38))], [.box (List.map AV.p (J6 b0))]⟩) = (JeI p x36 x37 b0) o := by
  unfold J2U at h
  rcases Jg h with ⟨h1, h⟩ | ⟨h1, h⟩
  · obtain ⟨y2, h3, h⟩ := bi h
    have f4 := J3b (r := J3) h3
    try simp only [Nf] at f4
    obtain ⟨r5, h6, h⟩ := bi h
    have f7 := Jhk p h6
    try simp only [Nf] at f7
    try simp only [↓Da, Ua, JP, J2, J0, J1, J8, J4, *, ↓reduceIte, Nat.reduceEqDiff, Nat.reduceAdd, Nat.reduceLT, Nat.reduceMul]
    rcases Jg h with ⟨h8, h⟩ | ⟨h8, h⟩
    · have f9 : sub (J3 y2) 0 1 = some ((r_i .i64) y2.Page.ID) := by
        have e0 := (J4e (J0K y2) (J4r y2.Page))
        exact e0
      try simp only [Nf] at f9
      obtain ⟨r10, h11, h⟩ := bi h
      have f12 := J5w p h11
      try simp only [Nf] at f12
      try simp only [↓Da, Ua, JP, J2, J0, J1, J8, J4, *, ↓reduceIte, Nat.reduceEqDiff, Nat.reduceAdd, Nat.reduceLT, Nat.reduceMul]
      rcases Jg h with ⟨h13, h⟩ | ⟨h13, h⟩
      · obtain rfl := sj h
        try simp only [↓Da, Ua, JP, J2, J0, J1, J8, J4, J1B, *, ↓reduceIte, Nat.reduceEqDiff, Nat.reduceAdd, Nat.reduceLT, Nat.reduceMul]
        rfl
      · try simp only [↓Da, Ua, JP, J2, J0, J1, J8, J4, *, ↓reduceIte, Nat.reduceEqDiff, Nat.reduceAdd, Nat.reduceLT, Nat.reduceMul]
        rcases Jg h with ⟨h14, h⟩ | ⟨h14, h⟩
        · try simp only [↓Da, Ua, JP, J2, J0, J1, J8, J4, *, ↓reduceIte, Nat.reduceEqDiff, Nat.reduceAdd, Nat.reduceLT, Nat.reduceMul]
          rcases Jg h with ⟨h15, h⟩ | ⟨h15, h⟩
          · obtain rfl := sj h
            try simp only [↓Da, Ua, JP, J2, J0, J1, J8, J4, J1B, *, ↓reduceIte, Nat.reduceEqDiff, Nat.reduceAdd, Nat.reduceLT, Nat.reduceMul]
            rfl
          · have f16 : sub (J3 y2) 1 1 = some ((r_i .i64) y2.Page.LSN) := by
              have e0 := (J4e (J0K y2) (J2X y2.Page))
              exact e0
            try simp only [Nf] at f16
            try simp only [↓Da, Ua, JP, J2, J0, J1, J8, J4, *, ↓reduceIte, Nat.reduceEqDiff, Nat.reduceAdd, Nat.reduceLT, Nat.reduceMul]
            rcases Jg h with ⟨h17, h⟩ | ⟨h17, h⟩
            · obtain rfl := sj h
              try simp only [↓Da, Ua, JP, J2, J0, J1, J8, J4, J1B, *, ↓reduceIte, Nat.reduceEqDiff, Nat.reduceAdd, Nat.reduceLT, Nat.reduceMul]
              rfl
            · obtain rfl := sj h
              try simp only [↓Da, Ua, JP, J2, J0, J1, J8, J4, *, ↓reduceIte, Nat.reduceEqDiff, Nat.reduceAdd, Nat.reduceLT, Nat.reduceMul]
              rfl
        · try simp only [↓Da, Ua, JP, J2, J0, J1, J8, J4, *, ↓reduceIte, Nat.reduceEqDiff, Nat.reduceAdd, Nat.reduceLT, Nat.reduceMul]
          rcases Jg h with ⟨h18, h⟩ | ⟨h18, h⟩
          · obtain rfl := sj h
            try simp only [↓Da, Ua, JP, J2, J0, J1, J8, J4, J1B, *, ↓reduceIte, Nat.reduceEqDiff, Nat.reduceAdd, Nat.reduceLT, Nat.reduceMul]
            rfl
          · obtain rfl := sj h
            try simp only [↓Da, Ua, JP, J2, J0, J1, J8, J4, *, ↓reduceIte, Nat.reduceEqDiff, Nat.reduceAdd, Nat.reduceLT, Nat.reduceMul]
            rfl
    · obtain rfl := sj h
      try simp only [↓Da, Ua, JP, J2, J0, J1, J8, J4, J1B, *, ↓reduceIte, Nat.reduceEqDiff, Nat.reduceAdd, Nat.reduceLT, Nat.reduceMul]
      rfl
  · obtain ⟨o', h', rfl⟩ := mi h
    try simp only [↓Da, Ua, JP, J2, J0, J1, J8, J4, *, ↓reduceIte, Nat.reduceEqDiff, Nat.reduceAdd, Nat.reduceLT, Nat.reduceMul]
    have e0 := Jem p (B0 := (J6 b0)) h'
    first | exact e0 | (simp only [*] at e0; exact e0)
def J9D (x36 : List T_api_Frame) (x37 : Int) (b0 : T_api_Pool) (s : Int) : Option (Bool) :=
  J03 (fun s => J2U x36 x37 b0 s) s
theorem Jdf {x36 : List T_api_Frame} {x37 : Int} {b0 : T_api_Pool} {s : Int} {o : Bool} (h : J9D x36 x37 b0 s = some o) :
    rk (J5 p) J1E 0 [.bl 0, .td 1 [2], .sq (.keep [] J2Z)] (X (J5 p) (.lp 1 [1, 36, 37, 38] JP) ⟨[(1, .ptr 0 0), (36, .p (.sl 37 (List.map J3 x36))), (37, .p (.i .i64 x37)), (38, .p (.i .i64 s))], [.box (List.map AV.p (J6 b0))]⟩) = J4S o := by
  have h0 : J03 (fun s => J2U x36 x37 b0 s) s = some o := h
  exact J3a (P := fun (s : Int) (o : Bool) => rk (J5 p) J1E 0 [.bl 0, .td 1 [2], .sq (.keep [] J2Z)] (X (J5 p) (.lp 1 [1, 36, 37, 38] JP) ⟨[(1, .ptr 0 0), (36, .p (.sl 37 (List.map J3 x36))), (37, .p (.i .i64 x37)), (38, .p (.i .i64 s))], [.box (List.map AV.p (J6 b0))]⟩) = J4S o) (fun s r hs => by rw [J2L]; exact J9u p hs) (fun s s1 r hs ih => by rw [J2L]; exact (J9u p hs).trans ih) h0
def J0U (x0 : T_api_Pool) : Option (Bool) :=
  if (decide (x0.Size < 1)) then
    some false
  else
    if (decide (x0.Size > 64)) then
      some false
    else
      if (decide (((List.length x0.Frames : Nat) : Int) > x0.Size)) then
        some false
      else
        if (decide (x0.Hand < 0)) then
          some false
        else
          if (decide (x0.Hand ≥ (J71 1 ((List.length x0.Frames : Nat) : Int)))) then
            some false
          else
            J9D x0.Frames ((List.length x0.Frames : Nat) : Int) x0 0
theorem JcL {x0 : T_api_Pool} {o : Bool} (h : J0U x0 = some o) :
    rk (J5 p) J1E 0 [] (X (J5 p) J0T ⟨[(0, .data (J6 x0))], []⟩) = J4S o := by
  unfold J0U at h
  rcases Jg h with ⟨h1, h⟩ | ⟨h1, h⟩
  · obtain rfl := sj h
    try simp only [↓Da, Ua, J0T, J2, J0, J1, J8, J4, J1B, *, ↓reduceIte, Nat.reduceEqDiff, Nat.reduceAdd, Nat.reduceLT, Nat.reduceMul]
    rfl
  · try simp only [↓Da, Ua, J0T, J2, J0, J1, J8, J4, *, ↓reduceIte, Nat.reduceEqDiff, Nat.reduceAdd, Nat.reduceLT, Nat.reduceMul]
    rcases Jg h with ⟨h2, h⟩ | ⟨h2, h⟩
    · obtain rfl := sj h
      try simp only [↓Da, Ua, J0T, J2, J0, J1, J8, J4, J1B, *, ↓reduceIte, Nat.reduceEqDiff, Nat.reduceAdd, Nat.reduceLT, Nat.reduceMul]
      rfl
    · try simp only [↓Da, Ua, J0T, J2, J0, J1, J8, J4, *, ↓reduceIte, Nat.reduceEqDiff, Nat.reduceAdd, Nat.reduceLT, Nat.reduceMul]
      rcases Jg h with ⟨h3, h⟩ | ⟨h3, h⟩
      · obtain rfl := sj h
        try simp only [↓Da, Ua, J0T, J2, J0, J1, J8, J4, J1B, *, ↓reduceIte, Nat.reduceEqDiff, Nat.reduceAdd, Nat.reduceLT, Nat.reduceMul]
        rfl
      · try simp only [↓Da, Ua, J0T, J2, J0, J1, J8, J4, *, ↓reduceIte, Nat.reduceEqDiff, Nat.reduceAdd, Nat.reduceLT, Nat.reduceMul]
        rcases Jg h with ⟨h4, h⟩ | ⟨h4, h⟩
        · obtain rfl := sj h
          try simp only [↓Da, Ua, J0T, J2, J0, J1, J8, J4, J1B, *, ↓reduceIte, Nat.reduceEqDiff, Nat.reduceAdd, Nat.reduceLT, Nat.reduceMul]
          rfl
        · try simp only [↓Da, Ua, J0T, J2, J0, J1, J8, J4, *, ↓reduceIte, Nat.reduceEqDiff, Nat.reduceAdd, Nat.reduceLT, Nat.reduceMul]
          rcases Jg h with ⟨h5, h⟩ | ⟨h5, h⟩
          · obtain rfl := sj h
            try simp only [↓Da, Ua, J0T, J2, J0, J1, J8, J4, J1B, *, ↓reduceIte, Nat.reduceEqDiff, Nat.reduceAdd, Nat.reduceLT, Nat.reduceMul]
            rfl
          · try simp only [↓Da, Ua, J0T, J2, J0, J1, J8, J4, *, ↓reduceIte, Nat.reduceEqDiff, Nat.reduceAdd, Nat.reduceLT, Nat.reduceMul]
            have e0 := Jdf p h
            first | exact e0 | (simp only [*] at e0; exact e0)
theorem Jhh {x0 : T_api_Pool} {o : Bool} (h : J0U x0 = some o) : AF (J5 p) J1n [.data (J6 x0)] [] = J4S o :=
  (J1e (J5 p) (Jhb p) rfl).trans (JcL p h)
theorem J3T {x0 : T_api_Pool} {o : Bool} (h : J0U x0 = some o) : ∀ ws new st, (Jr (AF (J5 p)) J1n ([.data (J6 x0)], ws) 0 new).run st = some ⟨.p (.b o), ws⟩ := JD rfl (Jhh p h) rfl
def Jcz  (r : Int) : Option Res := some (.p (.i .i64 r), [])
def J5y (x0 : T_api_Pool) (x1 : Int) : Option (Int) :=
  Option.bind (J0U x0) fun r1 =>
  if r1 then
    Option.bind (J10 x0 x1) fun r5 =>
    some r5
  else
    some (-1)
theorem JdP {x0 : T_api_Pool} {x1 : Int} {o : Int} (h : J5y x0 x1 = some o) :
    rk (J5 p) J5u 0 [] (X (J5 p) J4D ⟨[(0, .data (J6 x0)), (1, .p (.i .i64 x1))], []⟩) = Jcz o := by
  unfold J5y at h
  obtain ⟨r1, h2, h⟩ := bi h
  have f3 := J3T p h2
  try simp only [Nf] at f3
  try simp only [↓Da, Ua, J4D, J2, J0, J1, J8, J4, *, ↓reduceIte, Nat.reduceEqDiff, Nat.reduceAdd, Nat.reduceLT, Nat.reduceMul]
  rcases Jg h with ⟨h4, h⟩ | ⟨h4, h⟩
  · obtain ⟨r5, h6, h⟩ := bi h
    have f7 := J5w p h6
    try simp only [Nf] at f7
    obtain rfl := sj h
    try simp only [↓Da, Ua, J4D, J2, J0, J1, J8, J4, Jcv, *, ↓reduceIte, Nat.reduceEqDiff, Nat.reduceAdd, Nat.reduceLT, Nat.reduceMul]
    rfl
  · obtain rfl := sj h
    try simp only [↓Da, Ua, J4D, J2, J0, J1, J8, J4, Jcv, *, ↓reduceIte, Nat.reduceEqDiff, Nat.reduceAdd, Nat.reduceLT, Nat.reduceMul]
    rfl
theorem JhO {x0 : T_api_Pool} {x1 : Int} {o : Int} (h : J5y x0 x1 = some o) : AF (J5 p) J5z [.data (J6 x0), .p (.i .i64 x1)] [] = Jcz o :=
  (J1e (J5 p) (Jih p) rfl).trans (JdP p h)
theorem Ji3 {x0 : T_api_Pool} {x1 : Int} {o : Int} (h : J5y x0 x1 = some o) : ∀ ws new st, (Jr (AF (J5 p)) J5z ([.data (J6 x0), .p (.i .i64 x1)], ws) 0 new).run st = some ⟨.p (.i .i64 o), ws⟩ := JD rfl (JhO p h) rfl
def J48  (r : T_api_Pool × Int × Int) : Option Res := some (.tup [.data (J6 r.1), .p (.i .i64 r.2.1), .p (.i .i64 r.2.2)], [])
def J9c (b0_0 : Int) (b1 : T_api_Pool) (o : (Int × (List T_api_Frame)) ⊕ (T_api_Pool × Int × Int)) : Option Res := match o with
  | .inl s => rk (J5 p) J1o 0 [.bl 1, .sq (.keep [1, 2] J2i)] (X (J5 p) (.lp 3 [1, 2] J1x) ⟨[(1, .ptr 0 0), (2, .ptr 1 0)], [.box [.p (.i .i64 b0_0), .slr 2 0 (List.length s.2), .p (.i .i64 s.1)], .box (List.map AV.p (J6 b1)), .arr true 37 (List.map J3 s.2)]⟩)
  | .inr o => J48 o
def J5R (b0_0 : Int) (b0_2 : Int) (b1 : T_api_Pool) (l2 : List T_api_Frame) : Option (T_api_Pool × Int × Int) :=
  Option.bind (idx l2 b0_2) fun y1 =>
  some ((⟨b0_0, l2, b0_2⟩ : T_api_Pool), y1.Page.ID, 0)
theorem Jec {b0_0 : Int} {b0_2 : Int} {b1 : T_api_Pool} {l2 : List T_api_Frame} {w2 : Bool} {o : T_api_Pool × Int × Int} (h : J5R b0_0 b0_2 b1 l2 = some o) :
    rk (J5 p) J1o 0 [] (X (J5 p) J2i ⟨[(1, .ptr 0 0), (2, .ptr 1 0)], [.box [.p (.i .i64 b0_0), .slr 2 0 (List.length l2), .p (.i .i64 b0_2)], .box (List.map AV.p (J6 b1)), .arr w2 37 (List.map J3 l2)]⟩) = J48 o := by
  unfold J5R at h
  obtain ⟨y1, h2, h⟩ := bi h
  have f3 := Jd9 (r := J3) h2
  try simp only [Nf, JK, JJ] at f3
  have f4 : (0 ≤ (b0_2 : Int) ∧ (b0_2 : Int) < (((List.length l2) : Nat) : Int)) = True := eq_true (by have e0 := JeC h2; (try simp only [List.length_cons, List.length_nil, Nat.zero_add] at e0); omega)
  have f5 : sub (J3 y1) 0 1 = some ((r_i .i64) y1.Page.ID) := by
    have e0 := (J4e (J0K y1) (J4r y1.Page))
    exact e0
  try simp only [Nf, JK, JJ] at f5
  obtain rfl := sj h
  try simp only [↓Da, Ua, Ra, J2i, JK, J0, J1, JJ, J4, J85, *, ↓reduceIte, Nat.reduceEqDiff, Nat.reduceAdd, Nat.reduceLT, Nat.reduceMul, Nat.reduceBEq]
  rfl
def J1S (b0_0 : Int) (b1 : T_api_Pool) (b0_2 : Int) (l2 : List T_api_Frame) : Option (((Int × (List T_api_Frame)) ⊕ (T_api_Pool × Int × Int))) :=
  Option.bind (idx l2 b0_2) fun y1 =>
  if y1.Used then
    Option.bind (some (List.set l2 (Int.toNat b0_2) (⟨y1.Page, y1.Dirty, y1.Rec, false⟩ : T_api_Frame))) fun m6 =>
    Option.bind (Jbq (IntKind.wrap .i64 (b0_2 + 1)) (((List.length l2) : Nat) : Int)) fun q10 =>
    some (.inl (q10, m6))
  else
    Option.map (fun o => .inr o) (J5R b0_0 b0_2 b1 l2)
theorem J8W {b0_0 : Int} {b1 : T_api_Pool} {b0_2 : Int} {l2 : List T_api_Frame} {o : ((Int × (List T_api_Frame)) ⊕ (T_api_Pool × Int × Int))} (h : J1S b0_0 b1 b0_2 l2 = some o) :
    rk (J5 p) J1o 0 [.lo 3 [1, 2] J1x, .bl 1, .sq (.keep [1, 2] J2i)] (X (J5 p) J1x ⟨[(1, .ptr 0 0), (2, .ptr 1 0)], [.box [.p (.i .i64 b0_0), .slr 2 0 (List.length l2), .p (.i .i64 b0_2)], .box (List.map AV.p (J6 b1)), .arr true 37 (List.map J3 l2)]⟩) = (J9c p b0_0 b1) o := by
  unfold J1S at h
  obtain ⟨y1, h2, h⟩ := bi h
  have f3 := Jd9 (r := J3) h2
  try simp only [Nf, JK, JJ] at f3
  have f4 : (0 ≤ (b0_2 : Int) ∧ (b0_2 : Int) < (((List.length l2) : Nat) : Int)) = True := eq_true (by have e0 := JeC h2; (try simp only [List.length_cons, List.length_nil, Nat.zero_add] at e0); omega)
  try simp only [↓Da, Ua, J1x, JK, J0, J1, JJ, J4, *, ↓reduceIte, Nat.reduceEqDiff, Nat.reduceAdd, Nat.reduceLT, Nat.reduceMul]
  rcases Jg h with ⟨h5, h⟩ | ⟨h5, h⟩
  · obtain ⟨m6, h7, h⟩ := bi h
    have f8 : List.set (List.map J3 l2) (Int.toNat b0_2) (J3 (⟨y1.Page, y1.Dirty, y1.Rec, false⟩ : T_api_Frame)) = List.map J3 m6 := by
      rw [← Option.some.inj h7, List.map_set]
    try simp only [Nf, JK, JJ] at f8
    have g9 : List.length m6 = List.length l2 := by rw [← Option.some.inj h7, List.length_set]
    obtain ⟨q10, h11, h⟩ := bi h
    obtain rfl := sj h
    try simp only [↓Da, Ua, J1x, JK, J0, J1, JJ, J4, *, ↓reduceIte, Nat.reduceEqDiff, Nat.reduceAdd, Nat.reduceLT, Nat.reduceMul]
    try simp only [J9c, g9]
    try rfl
  · obtain ⟨o', h', rfl⟩ := mi h
    try simp only [↓Da, Ua, J1x, JK, J0, J1, JJ, J4, *, ↓reduceIte, Nat.reduceEqDiff, Nat.reduceAdd, Nat.reduceLT, Nat.reduceMul]
    have e0 := Jec p (w2 := true) h'
    first | exact e0 | (simp only [*] at e0; exact e0)
def J3e (b0_0 : Int) (b1 : T_api_Pool) (s : Int × (List T_api_Frame)) : Option (T_api_Pool × Int × Int) :=
  J03 (fun s => J1S b0_0 b1 s.1 s.2) s
theorem JbZ {b0_0 : Int} {b1 : T_api_Pool} {s : Int × (List T_api_Frame)} {o : T_api_Pool × Int × Int} (h : J3e b0_0 b1 s = some o) :
    rk (J5 p) J1o 0 [.bl 1, .sq (.keep [1, 2] J2i)] (X (J5 p) (.lp 3 [1, 2] J1x) ⟨[(1, .ptr 0 0), (2, .ptr 1 0)], [.box [.p (.i .i64 b0_0), .slr 2 0 (List.length s.2), .p (.i .i64 s.1)], .box (List.map AV.p (J6 b1)), .arr true 37 (List.map J3 s.2)]⟩) = J48 o := by
  have h0 : J03 (fun s => J1S b0_0 b1 s.1 s.2) s = some o := h
  exact J3a (P := fun (s : Int × (List T_api_Frame)) (o : T_api_Pool × Int × Int) => rk (J5 p) J1o 0 [.bl 1, .sq (.keep [1, 2] J2i)] (X (J5 p) (.lp 3 [1, 2] J1x) ⟨[(1, .ptr 0 0), (2, .ptr 1 0)], [.box [.p (.i .i64 b0_0), .slr 2 0 (List.length s.2), .p (.i .i64 s.1)], .box (List.map AV.p (J6 b1)), .arr true 37 (List.map J3 s.2)]⟩) = J48 o) (fun s r hs => by rw [J2L]; exact J8W p hs) (fun s s1 r hs ih => by rw [J2L]; exact (J8W p hs).trans ih) h0
def J2F (x0 : T_api_Pool) : Option (T_api_Pool × Int × Int) :=
  Option.bind (J0U x0) fun r1 =>
  if r1 then
    if ((((List.length x0.Frames : Nat) : Int) : Int) == 0) then
      some ((⟨0, ([] : List T_api_Frame), 0⟩ : T_api_Pool), 0, 18)
    else
      Option.bind (JS x0.Frames) fun r6 =>
      J3e x0.Size (⟨0, ([] : List T_api_Frame), 0⟩ : T_api_Pool) (x0.Hand, r6)
  else
    some ((⟨0, ([] : List T_api_Frame), 0⟩ : T_api_Pool), 0, 15)
theorem Jc2 {x0 : T_api_Pool} {o : T_api_Pool × Int × Int} (h : J2F x0 = some o) :
    rk (J5 p) J1o 0 [] (X (J5 p) J29 ⟨[(0, .data (J6 x0))], []⟩) = J48 o := by
  unfold J2F at h
  obtain ⟨r1, h2, h⟩ := bi h
  have f3 := J3T p h2
  try simp only [Nf, JK, JJ] at f3
  try simp only [↓Da, Ua, J29, JK, J0, J1, JJ, J4, *, ↓reduceIte, Nat.reduceEqDiff, Nat.reduceAdd, Nat.reduceLT, Nat.reduceMul]
  rcases Jg h with ⟨h4, h⟩ | ⟨h4, h⟩
  · try simp only [↓Da, Ua, J29, JK, J0, J1, JJ, J4, *, ↓reduceIte, Nat.reduceEqDiff, Nat.reduceAdd, Nat.reduceLT, Nat.reduceMul]
    rcases Jg h with ⟨h5, h⟩ | ⟨h5, h⟩
    · have h5n : ((((List.length x0.Frames : Nat) : Int) : Int) != 0) = false := by rw [bne, h5]; rfl
      obtain rfl := sj h
      try simp only [↓Da, Ua, J29, JK, J0, J1, JJ, J4, J85, *, ↓reduceIte, Nat.reduceEqDiff, Nat.reduceAdd, Nat.reduceLT, Nat.reduceMul]
      rfl
    · have h5n : ((((List.length x0.Frames : Nat) : Int) : Int) != 0) = true := by rw [bne, h5]; rfl
      obtain ⟨r6, h7, h⟩ := bi h
      have f8 : ∀ ws new s, (Jr (AF (J5 p)) Jz ([.p (.sl 37 (List.map J3 x0.Frames))], ws) 1 new).run s = some ⟨.slr new 0 (List.length r6), ws ++ [(new, .arr true 37 (List.map J3 r6))]⟩ := J9T rfl (J1R p h7)
      try simp only [Nf, JK, JJ] at f8
      try simp only [↓Da, Ua, J29, JK, J0, J1, JJ, J4, *, ↓reduceIte, Nat.reduceEqDiff, Nat.reduceAdd, Nat.reduceLT, Nat.reduceMul]
      have e0 := JbZ p h
      first | exact e0 | (simp only [*] at e0; exact e0)
  · obtain rfl := sj h
    try simp only [↓Da, Ua, J29, JK, J0, J1, JJ, J4, J85, *, ↓reduceIte, Nat.reduceEqDiff, Nat.reduceAdd, Nat.reduceLT, Nat.reduceMul]
    rfl
theorem JfF {x0 : T_api_Pool} {o : T_api_Pool × Int × Int} (h : J2F x0 = some o) : AF (J5 p) J43 [.data (J6 x0)] [] = J48 o :=
  (J1e (J5 p) (JfW p) rfl).trans (Jc2 p h)
theorem Jg3 {x0 : T_api_Pool} {o : T_api_Pool × Int × Int} (h : J2F x0 = some o) : ∀ ws new st, (Jr (AF (J5 p)) J43 ([.data (J6 x0)], ws) 0 new).run st = some ⟨.tup [.data (J6 o.1), .p (.i .i64 o.2.1), .p (.i .i64 o.2.2)], ws⟩ := JD rfl (JfF p h) rfl
end
end Go.Am
end
section
namespace Go.Am
set_option maxRecDepth 8000
set_option maxHeartbeats 4000000
set_option linter.unusedSimpArgs false
set_option linter.unusedVariables false
noncomputable section
variable (p : FuncId → Option (List AV → List Blk → Option Res))
def Je0  (r : T_api_Pool × Int) : Option Res := some (.tup [.data (J6 r.1), .p (.i .i64 r.2)], [])
def J1M (x0 : T_api_Pool) (x1 : J9) : Option (T_api_Pool × Int) :=
  Option.bind (J0U x0) fun r1 =>
  if r1 then
    Option.bind (J26 x1) fun r5 =>
    if ((r5.2 : Int) != 0) then
      some ((⟨0, ([] : List T_api_Frame), 0⟩ : T_api_Pool), r5.2)
    else
      Option.bind (J10 x0 x1.ID) fun r9 =>
      if (decide (r9 ≥ 0)) then
        some ((⟨0, ([] : List T_api_Frame), 0⟩ : T_api_Pool), 25)
      else
        if ((((List.length x0.Frames : Nat) : Int) : Int) == x0.Size) then
          some ((⟨0, ([] : List T_api_Frame), 0⟩ : T_api_Pool), 21)
        else
          Option.bind (J0j x0.Frames) fun r14 =>
          Option.bind (JcJ 424 r14 ([(⟨x1, false, 0, true⟩ : T_api_Frame)] : List T_api_Frame)) fun m19 =>
          some ((⟨x0.Size, m19, x0.Hand⟩ : T_api_Pool), 0)
  else
    some ((⟨0, ([] : List T_api_Frame), 0⟩ : T_api_Pool), 15)
theorem JeP {x0 : T_api_Pool} {x1 : J9} {o : T_api_Pool × Int} (h : J1M x0 x1 = some o) :
    rk (J5 p) J6i 0 [] (X (J5 p) J1L ⟨[(0, .data (J6 x0)), (1, .data (Ja x1))], []⟩) = Je0 o := by
  unfold J1M at h
  obtain ⟨r1, h2, h⟩ := bi h
  have f3 := J3T p h2
  try simp only [Nf, JK, JJ] at f3
  try simp only [↓Da, Ua, Ra, J1L, JK, J0, J1, JJ, J4, *, ↓reduceIte, Nat.reduceEqDiff, Nat.reduceAdd, Nat.reduceLT, Nat.reduceMul, Nat.reduceBEq]
  rcases Jg h with ⟨h4, h⟩ | ⟨h4, h⟩
  · obtain ⟨r5, h6, h⟩ := bi h
    have f7 := JaB p h6
    try simp only [Nf, JK, JJ] at f7
    try simp only [↓Da, Ua, Ra, J1L, JK, J0, J1, JJ, J4, *, ↓reduceIte, Nat.reduceEqDiff, Nat.reduceAdd, Nat.reduceLT, Nat.reduceMul, Nat.reduceBEq]
    rcases Jg h with ⟨h8, h⟩ | ⟨h8, h⟩
    · obtain rfl := sj h
      try simp only [↓Da, Ua, Ra, J1L, JK, J0, J1, JJ, J4, J7r, *, ↓reduceIte, Nat.reduceEqDiff, Nat.reduceAdd, Nat.reduceLT, Nat.reduceMul, Nat.reduceBEq]
      rfl
    · obtain ⟨r9, h10, h⟩ := bi h
      have f11 := J5w p h10
      try simp only [Nf, JK, JJ] at f11
      try simp only [↓Da, Ua, Ra, J1L, JK, J0, J1, JJ, J4, *, ↓reduceIte, Nat.reduceEqDiff, Nat.reduceAdd, Nat.reduceLT, Nat.reduceMul, Nat.reduceBEq]
      rcases Jg h with ⟨h12, h⟩ | ⟨h12, h⟩
      · obtain rfl := sj h
        try simp only [↓Da, Ua, Ra, J1L, JK, J0, J1, JJ, J4, J7r, *, ↓reduceIte, Nat.reduceEqDiff, Nat.reduceAdd, Nat.reduceLT, Nat.reduceMul, Nat.reduceBEq]
        rfl
      · try simp only [↓Da, Ua, Ra, J1L, JK, J0, J1, JJ, J4, *, ↓reduceIte, Nat.reduceEqDiff, Nat.reduceAdd, Nat.reduceLT, Nat.reduceMul, Nat.reduceBEq]
        rcases Jg h with ⟨h13, h⟩ | ⟨h13, h⟩
        · obtain rfl := sj h
          try simp only [↓Da, Ua, Ra, J1L, JK, J0, J1, JJ, J4, J7r, *, ↓reduceIte, Nat.reduceEqDiff, Nat.reduceAdd, Nat.reduceLT, Nat.reduceMul, Nat.reduceBEq]
          rfl
        · obtain ⟨r14, h15, h⟩ := bi h
          have f16 := J6L p h15
          try simp only [Nf, JK, JJ] at f16
          have f17 : ∀ ws k new s, Jd ((Jr (AF (J5 p)) JZ ([.p (.sl 37 (List.map J3 x0.Frames))], ws) k new).reads s) = [] := J0W rfl
          try simp only [Nf, JK, JJ] at f17
          obtain ⟨m19, h20, h⟩ := bi h
          have f18 : JcU 37 424 (.p (.slc 37 (List.map J3 r14))) (List.map J3 ([(⟨x1, false, 0, true⟩ : T_api_Frame)] : List T_api_Frame)) = some (List.map J3 m19) := JnG J3 h20
          try simp only [Nf, JK, JJ] at f18
          obtain rfl := sj h
          try simp only [↓Da, Ua, Ra, J1L, JK, J0, J1, JJ, J4, J7r, *, ↓reduceIte, Nat.reduceEqDiff, Nat.reduceAdd, Nat.reduceLT, Nat.reduceMul, Nat.reduceBEq]
          rfl
  · obtain rfl := sj h
    try simp only [↓Da, Ua, Ra, J1L, JK, J0, J1, JJ, J4, J7r, *, ↓reduceIte, Nat.reduceEqDiff, Nat.reduceAdd, Nat.reduceLT, Nat.reduceMul, Nat.reduceBEq]
    rfl
theorem JjC {x0 : T_api_Pool} {x1 : J9} {o : T_api_Pool × Int} (h : J1M x0 x1 = some o) : AF (J5 p) J4n [.data (J6 x0), .data (Ja x1)] [] = Je0 o :=
  (J1e (J5 p) (JiU p) rfl).trans (JeP p h)
theorem Jan {x0 : T_api_Pool} {x1 : J9} {o : T_api_Pool × Int} (h : J1M x0 x1 = some o) : ∀ ws new st, (Jr (AF (J5 p)) J4n ([.data (J6 x0), .data (Ja x1)], ws) 0 new).run st = some ⟨.tup [.data (J6 o.1), .p (.i .i64 o.2)], ws⟩ := JD rfl (JjC p h) rfl
def J7W  (r : T_api_Pool × Int) : Option Res := some (.tup [.data (J6 r.1), .p (.i .i64 r.2)], [])
def J3c (x8 : Int) (b0 : T_api_Pool) (b2 : T_api_Pool) (b3 : T_api_Frame) : Option (T_api_Pool × Int) :=
  Option.bind (J0i b0.Frames x8 b3) fun r1 =>
  some ((⟨b0.Size, r1, b0.Hand⟩ : T_api_Pool), 0)
theorem J94 {x8 : Int} {b0 : T_api_Pool} {b2 : T_api_Pool} {b3 : T_api_Frame} {B1 : List PV} {o : T_api_Pool × Int} (h : J3c x8 b0 b2 b3 = some o) :
    rk (J5 p) J3l 0 [] (X (J5 p) J7a ⟨[(2, .ptr 0 0), (4, .ptr 2 0), (8, .p (.i .i64 x8)), (9, .ptr 3 0)], [.box (List.map AV.p (J6 b0)), .box (List.map AV.p B1), .box (List.map AV.p (J6 b2)), .box (List.map AV.p (J3 b3))]⟩) = J7W o := by
  unfold J3c at h
  obtain ⟨r1, h2, h⟩ := bi h
  have f3 := J75 p h2
  try simp only [Nf] at f3
  obtain rfl := sj h
  try simp only [↓Da, Ua, J7a, J2, J0, J1, J8, J4, J5p, *, ↓reduceIte, Nat.reduceEqDiff, Nat.reduceAdd, Nat.reduceLT, Nat.reduceMul]
  rfl
def J2G (x0 : T_api_Pool) (x1 : J9) : Option (T_api_Pool × Int) :=
  Option.bind (J0U x0) fun r1 =>
  if r1 then
    Option.bind (J26 x1) fun r5 =>
    Option.bind (J10 x0 x1.ID) fun r8 =>
    if ((r5.2 : Int) != 0) then
      some ((⟨0, ([] : List T_api_Frame), 0⟩ : T_api_Pool), r5.2)
    else
      if (decide (r8 < 0)) then
        some ((⟨0, ([] : List T_api_Frame), 0⟩ : T_api_Pool), 18)
      else
        Option.bind (idx x0.Frames r8) fun y13 =>
        if (decide (x1.LSN ≤ y13.Page.LSN)) then
          some ((⟨0, ([] : List T_api_Frame), 0⟩ : T_api_Pool), 8)
        else
          if y13.Dirty then
            J3c r8 x0 (⟨0, ([] : List T_api_Frame), 0⟩ : T_api_Pool) (⟨x1, true, y13.Rec, true⟩ : T_api_Frame)
          else
            J3c r8 x0 (⟨0, ([] : List T_api_Frame), 0⟩ : T_api_Pool) (⟨x1, true, x1.LSN, true⟩ : T_api_Frame)
  else
    some ((⟨0, ([] : List T_api_Frame), 0⟩ : T_api_Pool), 15)
theorem Jcd {x0 : T_api_Pool} {x1 : J9} {o : T_api_Pool × Int} (h : J2G x0 x1 = some o) :
    rk (J5 p) J3l 0 [] (X (J5 p) J0F ⟨[(0, .data (J6 x0)), (1, .data (Ja x1))], []⟩) = J7W o := by
  unfold J2G at h
  obtain ⟨r1, h2, h⟩ := bi h
  have f3 := J3T p h2
  try simp only [Nf] at f3
  try simp only [↓Da, Ua, Ra, J0F, J2, J0, J1, J8, J4, *, ↓reduceIte, Nat.reduceEqDiff, Nat.reduceAdd, Nat.reduceLT, Nat.reduceMul, Nat.reduceBEq]
  rcases Jg h with ⟨h4, h⟩ | ⟨h4, h⟩
  · obtain ⟨r5, h6, h⟩ := bi h
    have f7 := JaB p h6
    try simp only [Nf] at f7
    obtain ⟨r8, h9, h⟩ := bi h
    have f10 := J5w p h9
    try simp only [Nf] at f10
    try simp only [↓Da, Ua, Ra, J0F, J2, J0, J1, J8, J4, *, ↓reduceIte, Nat.reduceEqDiff, Nat.reduceAdd, Nat.reduceLT, Nat.reduceMul, Nat.reduceBEq]
    rcases Jg h with ⟨h11, h⟩ | ⟨h11, h⟩
    · obtain rfl := sj h
      try simp only [↓Da, Ua, Ra, J0F, J2, J0, J1, J8, J4, J5p, *, ↓reduceIte, Nat.reduceEqDiff, Nat.reduceAdd, Nat.reduceLT, Nat.reduceMul, Nat.reduceBEq]
      rfl
    · try simp only [↓Da, Ua, Ra, J0F, J2, J0, J1, J8, J4, *, ↓reduceIte, Nat.reduceEqDiff, Nat.reduceAdd, Nat.reduceLT, Nat.reduceMul, Nat.reduceBEq]
      rcases Jg h with ⟨h12, h⟩ | ⟨h12, h⟩
      · obtain rfl := sj h
        try simp only [↓Da, Ua, Ra, J0F, J2, J0, J1, J8, J4, J5p, *, ↓reduceIte, Nat.reduceEqDiff, Nat.reduceAdd, Nat.reduceLT, Nat.reduceMul, Nat.reduceBEq]
        rfl
      · obtain ⟨y13, h14, h⟩ := bi h
        have f15 := J3b (r := J3) h14
        try simp only [Nf] at f15
        have f16 : sub (J3 y13) 1 1 = some ((r_i .i64) y13.Page.LSN) := by
          have e0 := (J4e (J0K y13) (J2X y13.Page))
          exact e0
        try simp only [Nf] at f16
        try simp only [↓Da, Ua, Ra, J0F, J2, J0, J1, J8, J4, *, ↓reduceIte, Nat.reduceEqDiff, Nat.reduceAdd, Nat.reduceLT, Nat.reduceMul, Nat.reduceBEq]
        rcases Jg h with ⟨h17, h⟩ | ⟨h17, h⟩
        · obtain rfl := sj h
          try simp only [↓Da, Ua, Ra, J0F, J2, J0, J1, J8, J4, J5p, *, ↓reduceIte, Nat.reduceEqDiff, Nat.reduceAdd, Nat.reduceLT, Nat.reduceMul, Nat.reduceBEq]
          rfl
        · try simp only [↓Da, Ua, Ra, J0F, J2, J0, J1, J8, J4, *, ↓reduceIte, Nat.reduceEqDiff, Nat.reduceAdd, Nat.reduceLT, Nat.reduceMul, Nat.reduceBEq]
          rcases Jg h with ⟨h18, h⟩ | ⟨h18, h⟩
          · try simp only [↓Da, Ua, Ra, J0F, J2, J0, J1, J8, J4, *, ↓reduceIte, Nat.reduceEqDiff, Nat.reduceAdd, Nat.reduceLT, Nat.reduceMul, Nat.reduceBEq]
            have e0 := J94 p (B1 := (Ja x1)) h
            first | exact e0 | (simp only [*] at e0; exact e0)
          · try simp only [↓Da, Ua, Ra, J0F, J2, J0, J1, J8, J4, *, ↓reduceIte, Nat.reduceEqDiff, Nat.reduceAdd, Nat.reduceLT, Nat.reduceMul, Nat.reduceBEq]
            have e0 := J94 p (B1 := (Ja x1)) h
            first | exact e0 | (simp only [*] at e0; exact e0)
  · obtain rfl := sj h
    try simp only [↓Da, Ua, Ra, J0F, J2, J0, J1, J8, J4, J5p, *, ↓reduceIte, Nat.reduceEqDiff, Nat.reduceAdd, Nat.reduceLT, Nat.reduceMul, Nat.reduceBEq]
    rfl
theorem Jga {x0 : T_api_Pool} {x1 : J9} {o : T_api_Pool × Int} (h : J2G x0 x1 = some o) : AF (J5 p) J3Y [.data (J6 x0), .data (Ja x1)] [] = J7W o :=
  (J1e (J5 p) (Jg5 p) rfl).trans (Jcd p h)
theorem Jg4 {x0 : T_api_Pool} {x1 : J9} {o : T_api_Pool × Int} (h : J2G x0 x1 = some o) : ∀ ws new st, (Jr (AF (J5 p)) J3Y ([.data (J6 x0), .data (Ja x1)], ws) 0 new).run st = some ⟨.tup [.data (J6 o.1), .p (.i .i64 o.2)], ws⟩ := JD rfl (Jga p h) rfl
def J8E  (r : T_api_Pool × Int) : Option Res := some (.tup [.data (J6 r.1), .p (.i .i64 r.2)], [])
def J2W (x8 : Int) (b0 : T_api_Pool) (b1 : T_api_Pool) (b2 : T_api_Frame) : Option (T_api_Pool × Int) :=
  Option.bind (J0i b0.Frames x8 b2) fun r1 =>
  some ((⟨b0.Size, r1, b0.Hand⟩ : T_api_Pool), 0)
theorem J7F {x8 : Int} {b0 : T_api_Pool} {b1 : T_api_Pool} {b2 : T_api_Frame} {o : T_api_Pool × Int} (h : J2W x8 b0 b1 b2 = some o) :
    rk (J5 p) J3N 0 [] (X (J5 p) J7D ⟨[(3, .ptr 0 0), (6, .ptr 1 0), (8, .p (.i .i64 x8)), (9, .ptr 2 0)], [.box (List.map AV.p (J6 b0)), .box (List.map AV.p (J6 b1)), .box (List.map AV.p (J3 b2))]⟩) = J8E o := by
  unfold J2W at h
  obtain ⟨r1, h2, h⟩ := bi h
  have f3 := J75 p h2
  try simp only [Nf] at f3
  obtain rfl := sj h
  try simp only [↓Da, Ua, J7D, J2, J0, J1, J8, J4, J5Y, *, ↓reduceIte, Nat.reduceEqDiff, Nat.reduceAdd, Nat.reduceLT, Nat.reduceMul]
  rfl
def J3M (x0 : T_api_Pool) (x1 : Int) (x2 : Int) : Option (T_api_Pool × Int) :=
  Option.bind (J0U x0) fun r1 =>
  if r1 then
    Option.bind (J10 x0 x1) fun r5 =>
    if (decide (r5 < 0)) then
      some ((⟨0, ([] : List T_api_Frame), 0⟩ : T_api_Pool), 18)
    else
      Option.bind (idx x0.Frames r5) fun y9 =>
      if (decide (x2 > y9.Page.LSN)) then
        some ((⟨0, ([] : List T_api_Frame), 0⟩ : T_api_Pool), 9)
      else
        if y9.Dirty then
          if ((x2 : Int) == y9.Page.LSN) then
            J2W r5 x0 (⟨0, ([] : List T_api_Frame), 0⟩ : T_api_Pool) (⟨y9.Page, false, 0, y9.Used⟩ : T_api_Frame)
          else
            if (decide (y9.Rec ≤ x2)) then
              J2W r5 x0 (⟨0, ([] : List T_api_Frame), 0⟩ : T_api_Pool) (⟨y9.Page, y9.Dirty, (IntKind.wrap .i64 (x2 + 1)), y9.Used⟩ : T_api_Frame)
            else
              J2W r5 x0 (⟨0, ([] : List T_api_Frame), 0⟩ : T_api_Pool) y9
        else
          some (x0, 0)
  else
    some ((⟨0, ([] : List T_api_Frame), 0⟩ : T_api_Pool), 15)
theorem JcQ {x0 : T_api_Pool} {x1 : Int} {x2 : Int} {o : T_api_Pool × Int} (h : J3M x0 x1 x2 = some o) :
    rk (J5 p) J3N 0 [] (X (J5 p) J0y ⟨[(0, .data (J6 x0)), (1, .p (.i .i64 x1)), (2, .p (.i .i64 x2))], []⟩) = J8E o := by
  unfold J3M at h
  obtain ⟨r1, h2, h⟩ := bi h
  have f3 := J3T p h2
  try simp only [Nf] at f3
  try simp only [↓Da, Ua, J0y, J2, J0, J1, J8, J4, *, ↓reduceIte, Nat.reduceEqDiff, Nat.reduceAdd, Nat.reduceLT, Nat.reduceMul]
  rcases Jg h with ⟨h4, h⟩ | ⟨h4, h⟩
  · obtain ⟨r5, h6, h⟩ := bi h
    have f7 := J5w p h6
    try simp only [Nf] at f7
    try simp only [↓Da, Ua, J0y, J2, J0, J1, J8, J4, *, ↓reduceIte, Nat.reduceEqDiff, Nat.reduceAdd, Nat.reduceLT, Nat.reduceMul]
    rcases Jg h with ⟨h8, h⟩ | ⟨h8, h⟩
    · obtain rfl := sj h
      try simp only [↓Da, Ua, J0y, J2, J0, J1, J8, J4, J5Y, *, ↓reduceIte, Nat.reduceEqDiff, Nat.reduceAdd, Nat.reduceLT, Nat.reduceMul]
      rfl
    · obtain ⟨y9, h10, h⟩ := bi h
      have f11 := J3b (r := J3) h10
      try simp only [Nf] at f11
      have f12 : sub (J3 y9) 1 1 = some ((r_i .i64) y9.Page.LSN) := by
        have e0 := (J4e (J0K y9) (J2X y9.Page))
        exact e0
      try simp only [Nf] at f12
      try simp only [↓Da, Ua, J0y, J2, J0, J1, J8, J4, *, ↓reduceIte, Nat.reduceEqDiff, Nat.reduceAdd, Nat.reduceLT, Nat.reduceMul]
      rcases Jg h with ⟨h13, h⟩ | ⟨h13, h⟩
      · obtain rfl := sj h
        try simp only [↓Da, Ua, J0y, J2, J0, J1, J8, J4, J5Y, *, ↓reduceIte, Nat.reduceEqDiff, Nat.reduceAdd, Nat.reduceLT, Nat.reduceMul]
        rfl
      · try simp only [↓Da, Ua, J0y, J2, J0, J1, J8, J4, *, ↓reduceIte, Nat.reduceEqDiff, Nat.reduceAdd, Nat.reduceLT, Nat.reduceMul]
        rcases Jg h with ⟨h14, h⟩ | ⟨h14, h⟩
        · have f15 : sub (J3 y9) 1 1 = some ((r_i .i64) y9.Page.LSN) := by
            have e0 := (J4e (J0K y9) (J2X y9.Page))
            exact e0
          try simp only [Nf] at f15
          try simp only [↓Da, Ua, J0y, J2, J0, J1, J8, J4, *, ↓reduceIte, Nat.reduceEqDiff, Nat.reduceAdd, Nat.reduceLT, Nat.reduceMul]
          rcases Jg h with ⟨h16, h⟩ | ⟨h16, h⟩
          · try simp only [↓Da, Ua, J0y, J2, J0, J1, J8, J4, *, ↓reduceIte, Nat.reduceEqDiff, Nat.reduceAdd, Nat.reduceLT, Nat.reduceMul]
            have e0 := J7F p h
            first | exact e0 | (simp only [*] at e0; exact e0)
          · try simp only [↓Da, Ua, J0y, J2, J0, J1, J8, J4, *, ↓reduceIte, Nat.reduceEqDiff, Nat.reduceAdd, Nat.reduceLT, Nat.reduceMul]
            rcases Jg h with ⟨h17, h⟩ | ⟨h17, h⟩
            · try simp only [↓Da, Ua, J0y, J2, J0, J1, J8, J4, *, ↓reduceIte, Nat.reduceEqDiff, Nat.reduceAdd, Nat.reduceLT, Nat.reduceMul]
              have e0 := J7F p h
              first | exact e0 | (simp only [*] at e0; exact e0)
            · try simp only [↓Da, Ua, J0y, J2, J0, J1, J8, J4, *, ↓reduceIte, Nat.reduceEqDiff, Nat.reduceAdd, Nat.reduceLT, Nat.reduceMul]
              have e0 := J7F p h
              first | exact e0 | (simp only [*] at e0; exact e0)
        · obtain rfl := sj h
          try simp only [↓Da, Ua, J0y, J2, J0, J1, J8, J4, J5Y, *, ↓reduceIte, Nat.reduceEqDiff, Nat.reduceAdd, Nat.reduceLT, Nat.reduceMul]
          rfl
  · obtain rfl := sj h
    try simp only [↓Da, Ua, J0y, J2, J0, J1, J8, J4, J5Y, *, ↓reduceIte, Nat.reduceEqDiff, Nat.reduceAdd, Nat.reduceLT, Nat.reduceMul]
    rfl
theorem Jhs {x0 : T_api_Pool} {x1 : Int} {x2 : Int} {o : T_api_Pool × Int} (h : J3M x0 x1 x2 = some o) : AF (J5 p) J4U [.data (J6 x0), .p (.i .i64 x1), .p (.i .i64 x2)] [] = J8E o :=
  (J1e (J5 p) (Jh8 p) rfl).trans (JcQ p h)
theorem JgJ {x0 : T_api_Pool} {x1 : Int} {x2 : Int} {o : T_api_Pool × Int} (h : J3M x0 x1 x2 = some o) : ∀ ws new st, (Jr (AF (J5 p)) J4U ([.data (J6 x0), .p (.i .i64 x1), .p (.i .i64 x2)], ws) 0 new).run st = some ⟨.tup [.data (J6 o.1), .p (.i .i64 o.2)], ws⟩ := JD rfl (Jhs p h) rfl
def J4O  (r : (List T_api_Dirty)) : Option Res := some (.p (.sl 3 (List.map Jc r)), [])
def Jef (x10 : List T_api_Frame) (x11 : Int) (B0 : List PV) (o : (Int × (List T_api_Dirty)) ⊕ ((List T_api_Dirty))) : Option Res := match o with
  | .inl s => rk (J5 p) J1C 0 [.bl 0, .td 2 [2, 3], .sq (.keep [3] J2T)] (X (J5 p) (.lp 2 [3, 10, 11, 12] J1r) ⟨[(3, .slr 1 0 (List.length s.2)), (10, .p (.sl 37 (List.map J3 x10))), (11, .p (.i .i64 x11)), (12, .p (.i .i64 s.1))], [.box (List.map AV.p B0), .arr true 3 (List.map Jc s.2)]⟩)
  | .inr o => J4O o
def J6k (l1 : List T_api_Dirty) : Option ((List T_api_Dirty)) :=
  Option.bind (J02 l1 ) fun r1 =>
  some r1
theorem JeB {l1 : List T_api_Dirty} {B0 : List PV} {o : (List T_api_Dirty)} (h : J6k l1 = some o) :
    rk (J5 p) J1C 0 [] (X (J5 p) J2T ⟨[(3, .slr 1 0 (List.length l1))], [.box (List.map AV.p B0), .arr true 3 (List.map Jc l1)]⟩) = J4O o := by
  unfold J6k at h
  obtain ⟨r1, h2, h⟩ := bi h
  have f3 : ∀ ws new s, (J5J ws 1).run s = some (.arr true 3 (List.map Jc l1)) → (J1P (AF (J5 p)) J0p ([.slr 1 0 (List.length l1), .fn J5P [] []], ws) 0 new).run s = some ⟨.tup [], ws ++ [(1, .arr true 3 (List.map Jc r1))]⟩ := fun ws new s h1 => Je9 rfl (by first | rfl | simp [ren.renL, ren, J25]) (J5U p h2) (fun _ => rfl) ws new s h1
  try simp only [Nf] at f3
  have g4 : List.length r1 = List.length l1 := J5q h2
  obtain rfl := sj h
  try simp only [↓Da, Ua, J2T, J0u, Jbj, *, ↓reduceIte, Nat.reduceEqDiff, Nat.reduceAdd, Nat.reduceLT, Nat.reduceMul]
  rfl
def J1s (x10 : List T_api_Frame) (x11 : Int) (x12 : Int) (l1 : List T_api_Dirty) : Option (((Int × (List T_api_Dirty)) ⊕ ((List T_api_Dirty)))) :=
  if (decide (x12 < x11)) then
    Option.bind (idx x10 x12) fun y2 =>
    if y2.Dirty then
      Option.bind (JhH 24 l1 ([(⟨y2.Page.ID, y2.Rec, y2.Page.LSN⟩ : T_api_Dirty)] : List T_api_Dirty)) fun m8 =>
      some (.inl ((IntKind.wrap .i64 (x12 + 1)), m8))
    else
      some (.inl ((IntKind.wrap .i64 (x12 + 1)), l1))
  else
    Option.map (fun o => .inr o) (J6k l1)
theorem J9G {x10 : List T_api_Frame} {x11 : Int} {x12 : Int} {l1 : List T_api_Dirty} {B0 : List PV} {o : ((Int × (List T_api_Dirty)) ⊕ ((List T_api_Dirty)))} (h : J1s x10 x11 x12 l1 = some o) :
    rk (J5 p) J1C 0 [.lo 2 [3, 10, 11, 12] J1r, .bl 0, .td 2 [2, 3], .sq (.keep [3] J2T)] (X (J5 p) J1r ⟨[(3, .slr 1 0 (List.length l1)), (10, .p (.sl 37 (List.map J3 x10))), (11, .p (.i .i64 x11)), (12, .p (.i .i64 x12))], [.box (List.map AV.p B0), .arr true 3 (List.map Jc l1)]⟩) = (Jef p x10 x11 B0) o := by
  unfold J1s at h
  rcases Jg h with ⟨h1, h⟩ | ⟨h1, h⟩
  · obtain ⟨y2, h3, h⟩ := bi h
    have f4 := J3b (r := J3) h3
    try simp only [Nf] at f4
    try simp only [↓Da, Ua, J1r, J2, J0, J1, J0u, J4, *, ↓reduceIte, Nat.reduceEqDiff, Nat.reduceAdd, Nat.reduceLT, Nat.reduceMul]
    rcases Jg h with ⟨h5, h⟩ | ⟨h5, h⟩
    · have f6 : sub (J3 y2) 0 1 = some ((r_i .i64) y2.Page.ID) := by
        have e0 := (J4e (J0K y2) (J4r y2.Page))
        exact e0
      try simp only [Nf] at f6
      have f7 : sub (J3 y2) 1 1 = some ((r_i .i64) y2.Page.LSN) := by
        have e0 := (J4e (J0K y2) (J2X y2.Page))
        exact e0
      try simp only [Nf] at f7
      obtain ⟨m8, h9, h⟩ := bi h
      have f10 : ∀ s : St, s.sto[1]? = some (.arr true 3 (List.map Jc l1)) → (JU 3 (.p (.sl 3 (List.map Jc ([(⟨y2.Page.ID, y2.Rec, y2.Page.LSN⟩ : T_api_Dirty)] : List T_api_Dirty))))).run s = some (List.map Jc ([(⟨y2.Page.ID, y2.Rec, y2.Page.LSN⟩ : T_api_Dirty)] : List T_api_Dirty)) → (J5G 3 24 (.slr 1 0 (List.length l1)) (.p (.sl 3 (List.map Jc ([(⟨y2.Page.ID, y2.Rec, y2.Page.LSN⟩ : T_api_Dirty)] : List T_api_Dirty))))).run s = some ⟨.slr 1 0 (List.length m8), [(1, .arr true 3 (List.map Jc m8))]⟩ := by
        intro s e1 e2; have e3 := Jno h9 e1 e2; try simp only [List.length_cons, List.length_nil, Nat.zero_add] at e3
        exact e3
      try simp only [Nf] at f10
      obtain rfl := sj h
      try simp only [↓Da, Ua, J1r, J2, J0, J1, J0u, J4, *, ↓reduceIte, Nat.reduceEqDiff, Nat.reduceAdd, Nat.reduceLT, Nat.reduceMul]
      rfl
    · obtain rfl := sj h
      try simp only [↓Da, Ua, J1r, J2, J0, J1, J0u, J4, *, ↓reduceIte, Nat.reduceEqDiff, Nat.reduceAdd, Nat.reduceLT, Nat.reduceMul]
      rfl
  · obtain ⟨o', h', rfl⟩ := mi h
    try simp only [↓Da, Ua, J1r, J2, J0, J1, J0u, J4, *, ↓reduceIte, Nat.reduceEqDiff, Nat.reduceAdd, Nat.reduceLT, Nat.reduceMul]
    have e0 := JeB p (B0 := B0) h'
    first | exact e0 | (simp only [*] at e0; exact e0)
def J9y (x10 : List T_api_Frame) (x11 : Int) (s : Int × (List T_api_Dirty)) : Option ((List T_api_Dirty)) :=
  J03 (fun s => J1s x10 x11 s.1 s.2) s
theorem Jd1 {x10 : List T_api_Frame} {x11 : Int} {B0 : List PV} {s : Int × (List T_api_Dirty)} {o : (List T_api_Dirty)} (h : J9y x10 x11 s = some o) :
    rk (J5 p) J1C 0 [.bl 0, .td 2 [2, 3], .sq (.keep [3] J2T)] (X (J5 p) (.lp 2 [3, 10, 11, 12] J1r) ⟨[(3, .slr 1 0 (List.length s.2)), (10, .p (.sl 37 (List.map J3 x10))), (11, .p (.i .i64 x11)), (12, .p (.i .i64 s.1))], [.box (List.map AV.p B0), .arr true 3 (List.map Jc s.2)]⟩) = J4O o := by
  have h0 : J03 (fun s => J1s x10 x11 s.1 s.2) s = some o := h
  exact J3a (P := fun (s : Int × (List T_api_Dirty)) (o : (List T_api_Dirty)) => rk (J5 p) J1C 0 [.bl 0, .td 2 [2, 3], .sq (.keep [3] J2T)] (X (J5 p) (.lp 2 [3, 10, 11, 12] J1r) ⟨[(3, .slr 1 0 (List.length s.2)), (10, .p (.sl 37 (List.map J3 x10))), (11, .p (.i .i64 x11)), (12, .p (.i .i64 s.1))], [.box (List.map AV.p B0), .arr true 3 (List.map Jc s.2)]⟩) = J4O o) (fun s r hs => by rw [J2L]; exact J9G p hs) (fun s s1 r hs ih => by rw [J2L]; exact (J9G p hs).trans ih) h0
def J3Q (x0 : T_api_Pool) : Option ((List T_api_Dirty)) :=
  Option.bind (J0U x0) fun r1 =>
  if r1 then
    J9y x0.Frames ((List.length x0.Frames : Nat) : Int) (0, ([] : List T_api_Dirty))
  else
    some ([] : List T_api_Dirty)
theorem Jdr {x0 : T_api_Pool} {o : (List T_api_Dirty)} (h : J3Q x0 = some o) :
    rk (J5 p) J1C 0 [] (X (J5 p) J3S ⟨[(0, .data (J6 x0))], []⟩) = J4O o := by
  unfold J3Q at h
  obtain ⟨r1, h2, h⟩ := bi h
  have f3 := J3T p h2
  try simp only [Nf] at f3
  try simp only [↓Da, Ua, J3S, J2, J0, J1, J8, J0u, J4, *, ↓reduceIte, Nat.reduceEqDiff, Nat.reduceAdd, Nat.reduceLT, Nat.reduceMul]
  rcases Jg h with ⟨h4, h⟩ | ⟨h4, h⟩
  · try simp only [↓Da, Ua, J3S, J2, J0, J1, J8, J0u, J4, *, ↓reduceIte, Nat.reduceEqDiff, Nat.reduceAdd, Nat.reduceLT, Nat.reduceMul]
    have e0 := Jd1 p (B0 := (J6 x0)) h
    first | exact e0 | (simp only [*] at e0; exact e0)
  · obtain rfl := sj h
    try simp only [↓Da, Ua, J3S, J2, J0, J1, J8, J0u, J4, Jbj, *, ↓reduceIte, Nat.reduceEqDiff, Nat.reduceAdd, Nat.reduceLT, Nat.reduceMul]
    rfl
theorem JhF {x0 : T_api_Pool} {o : (List T_api_Dirty)} (h : J3Q x0 = some o) : AF (J5 p) J50 [.data (J6 x0)] [] = J4O o :=
  (J1e (J5 p) (Jhj p) rfl).trans (Jdr p h)
theorem JgG {x0 : T_api_Pool} {o : (List T_api_Dirty)} (h : J3Q x0 = some o) : ∀ ws new st, (Jr (AF (J5 p)) J50 ([.data (J6 x0)], ws) 0 new).run st = some ⟨.p (.sl 3 (List.map Jc o)), ws⟩ := JD rfl (JhF p h) rfl
def J7N  (r : T_api_Pool × Int) : Option Res := some (.tup [.data (J6 r.1), .p (.i .i64 r.2)], [])
def J45 (b0 : T_api_Pool) (b1 : T_api_Pool) : Option (T_api_Pool × Int) :=
  some (b0, 0)
theorem Jax {b0 : T_api_Pool} {b1 : T_api_Pool} {B2 : Blk} {o : T_api_Pool × Int} (h : J45 b0 b1 = some o) :
    rk (J5 p) J3H 0 [] (X (J5 p) J83 ⟨[(2, .ptr 0 0), (4, .ptr 1 0)], [.box (List.map AV.p (J6 b0)), .box (List.map AV.p (J6 b1)), B2]⟩) = J7N o := by
  unfold J45 at h
  obtain rfl := sj h
  try simp only [↓Da, Ua, J83, J2, J0, J1, J8, J4, J7L, ↓reduceIte, Nat.reduceEqDiff, Nat.reduceAdd, Nat.reduceLT, Nat.reduceMul]
  rfl
def J4c (b0 : T_api_Pool) (b1 : T_api_Pool) : Option (T_api_Pool × Int) :=
  if (decide (b0.Hand ≥ ((List.length b0.Frames : Nat) : Int))) then
    J45 (⟨b0.Size, b0.Frames, 0⟩ : T_api_Pool) b1
  else
    J45 b0 b1
theorem Jau {b0 : T_api_Pool} {b1 : T_api_Pool} {B2 : Blk} {o : T_api_Pool × Int} (h : J4c b0 b1 = some o) :
    rk (J5 p) J3H 0 [] (X (J5 p) J6V ⟨[(2, .ptr 0 0), (4, .ptr 1 0)], [.box (List.map AV.p (J6 b0)), .box (List.map AV.p (J6 b1)), B2]⟩) = J7N o := by
  unfold J4c at h
  rcases Jg h with ⟨h1, h⟩ | ⟨h1, h⟩
  · try simp only [↓Da, Ua, J6V, J2, J0, J1, J8, J4, *, ↓reduceIte, Nat.reduceEqDiff, Nat.reduceAdd, Nat.reduceLT, Nat.reduceMul]
    have e0 := Jax p (B2 := B2) h
    first | exact e0 | (simp only [*] at e0; exact e0)
  · try simp only [↓Da, Ua, J6V, J2, J0, J1, J8, J4, *, ↓reduceIte, Nat.reduceEqDiff, Nat.reduceAdd, Nat.reduceLT, Nat.reduceMul]
    have e0 := Jax p (B2 := B2) h
    first | exact e0 | (simp only [*] at e0; exact e0)
def J2f (x0 : T_api_Pool) (x1 : Int) : Option (T_api_Pool × Int) :=
  Option.bind (J0U x0) fun r1 =>
  if r1 then
    Option.bind (J10 x0 x1) fun r5 =>
    if (decide (r5 < 0)) then
      some ((⟨0, ([] : List T_api_Frame), 0⟩ : T_api_Pool), 18)
    else
      Option.bind (idx x0.Frames r5) fun y9 =>
      if y9.Dirty then
        some ((⟨0, ([] : List T_api_Frame), 0⟩ : T_api_Pool), 23)
      else
        Option.bind (JS x0.Frames) fun r13 =>
        Option.bind (J11 r13 r5 (IntKind.wrap .i64 (r5 + 1))) fun r16 =>
        if (decide (r5 < x0.Hand)) then
          J4c (⟨x0.Size, r16, (IntKind.wrap .i64 (x0.Hand - 1))⟩ : T_api_Pool) (⟨0, ([] : List T_api_Frame), 0⟩ : T_api_Pool)
        else
          J4c (⟨x0.Size, r16, x0.Hand⟩ : T_api_Pool) (⟨0, ([] : List T_api_Frame), 0⟩ : T_api_Pool)
  else
    some ((⟨0, ([] : List T_api_Frame), 0⟩ : T_api_Pool), 15)
theorem JdN {x0 : T_api_Pool} {x1 : Int} {o : T_api_Pool × Int} (h : J2f x0 x1 = some o) :
    rk (J5 p) J3H 0 [] (X (J5 p) J1t ⟨[(0, .data (J6 x0)), (1, .p (.i .i64 x1))], []⟩) = J7N o := by
  unfold J2f at h
  obtain ⟨r1, h2, h⟩ := bi h
  have f3 := J3T p h2
  try simp only [Nf] at f3
  try simp only [↓Da, Ua, J1t, J2, J0, J1, J8, J4, *, ↓reduceIte, Nat.reduceEqDiff, Nat.reduceAdd, Nat.reduceLT, Nat.reduceMul]
  rcases Jg h with ⟨h4, h⟩ | ⟨h4, h⟩
  · obtain ⟨r5, h6, h⟩ := bi h
    have f7 := J5w p h6
    try simp only [Nf] at f7
    try simp only [↓Da, Ua, J1t, J2, J0, J1, J8, J4, *, ↓reduceIte, Nat.reduceEqDiff, Nat.reduceAdd, Nat.reduceLT, Nat.reduceMul]
    rcases Jg h with ⟨h8, h⟩ | ⟨h8, h⟩
    · obtain rfl := sj h
      try simp only [↓Da, Ua, J1t, J2, J0, J1, J8, J4, J7L, *, ↓reduceIte, Nat.reduceEqDiff, Nat.reduceAdd, Nat.reduceLT, Nat.reduceMul]
      rfl
    · obtain ⟨y9, h10, h⟩ := bi h
      have f11 := J3b (r := J3) h10
      try simp only [Nf] at f11
      try simp only [↓Da, Ua, J1t, J2, J0, J1, J8, J4, *, ↓reduceIte, Nat.reduceEqDiff, Nat.reduceAdd, Nat.reduceLT, Nat.reduceMul]
      rcases Jg h with ⟨h12, h⟩ | ⟨h12, h⟩
      · obtain rfl := sj h
        try simp only [↓Da, Ua, J1t, J2, J0, J1, J8, J4, J7L, *, ↓reduceIte, Nat.reduceEqDiff, Nat.reduceAdd, Nat.reduceLT, Nat.reduceMul]
        rfl
      · obtain ⟨r13, h14, h⟩ := bi h
        have f15 : ∀ ws new s, (Jr (AF (J5 p)) Jz ([.p (.sl 37 (List.map J3 x0.Frames))], ws) 1 new).run s = some ⟨.slr new 0 (List.length r13), ws ++ [(new, .arr true 37 (List.map J3 r13))]⟩ := J9T rfl (J1R p h14)
        try simp only [Nf] at f15
        obtain ⟨r16, h17, h⟩ := bi h
        have f18 : ∀ ws new s, (J5J ws 2).run s = some (.arr true 37 (List.map J3 r13)) → (J1P (AF (J5 p)) J0B ([.slr 2 0 (List.length r13), .p (.i .i64 r5), .p (.i .i64 (IntKind.wrap .i64 (r5 + 1)))], ws) 0 new).run s = some ⟨.p (.sl 37 (List.map J3 r16)), ws ++ [(2, .arr false 37 (List.map J3 (r16 ++ List.replicate (List.length r13 - List.length r16) (⟨(⟨0, 0, (Vector.replicate 16 (⟨false, []⟩ : Je))⟩ : J9), false, 0, false⟩ : T_api_Frame))))]⟩ := fun ws new s h1 => Je9 rfl (by first | rfl | simp [ren.renL, ren, J25]) (J6o p h17) (fun _ => rfl) ws new s h1
        try simp only [Nf] at f18
        try simp only [↓Da, Ua, J1t, J2, J0, J1, J8, J4, *, ↓reduceIte, Nat.reduceEqDiff, Nat.reduceAdd, Nat.reduceLT, Nat.reduceMul]
        rcases Jg h with ⟨h19, h⟩ | ⟨h19, h⟩
        · try simp only [↓Da, Ua, J1t, J2, J0, J1, J8, J4, *, ↓reduceIte, Nat.reduceEqDiff, Nat.reduceAdd, Nat.reduceLT, Nat.reduceMul]
          have e0 := Jau p (B2 := .arr false 37 (List.map J3 (r16 ++ List.replicate (List.length r13 - List.length r16) (⟨(⟨0, 0, (Vector.replicate 16 (⟨false, []⟩ : Je))⟩ : J9), false, 0, false⟩ : T_api_Frame)))) h
          first | exact e0 | (simp only [*] at e0; exact e0)
        · try simp only [↓Da, Ua, J1t, J2, J0, J1, J8, J4, *, ↓reduceIte, Nat.reduceEqDiff, Nat.reduceAdd, Nat.reduceLT, Nat.reduceMul]
          have e0 := Jau p (B2 := .arr false 37 (List.map J3 (r16 ++ List.replicate (List.length r13 - List.length r16) (⟨(⟨0, 0, (Vector.replicate 16 (⟨false, []⟩ : Je))⟩ : J9), false, 0, false⟩ : T_api_Frame)))) h
          first | exact e0 | (simp only [*] at e0; exact e0)
  · obtain rfl := sj h
    try simp only [↓Da, Ua, J1t, J2, J0, J1, J8, J4, J7L, *, ↓reduceIte, Nat.reduceEqDiff, Nat.reduceAdd, Nat.reduceLT, Nat.reduceMul]
    rfl
theorem Jic {x0 : T_api_Pool} {x1 : Int} {o : T_api_Pool × Int} (h : J2f x0 x1 = some o) : AF (J5 p) J5A [.data (J6 x0), .p (.i .i64 x1)] [] = J7N o :=
  (J1e (J5 p) (Jig p) rfl).trans (JdN p h)
theorem JcG {x0 : T_api_Pool} {x1 : Int} {o : T_api_Pool × Int} (h : J2f x0 x1 = some o) : ∀ ws new st, (Jr (AF (J5 p)) J5A ([.data (J6 x0), .p (.i .i64 x1)], ws) 0 new).run st = some ⟨.tup [.data (J6 o.1), .p (.i .i64 o.2)], ws⟩ := JD rfl (Jic p h) rfl
def JdV  (r : J9 × Bool) : Option Res := some (.tup [.data (Ja r.1), .p (.b r.2)], [])
def J5f (x0 : T_api_Pool) (x1 : Int) : Option (J9 × Bool) :=
  Option.bind (J5y x0 x1) fun r1 =>
  if (decide (r1 ≥ 0)) then
    Option.bind (idx x0.Frames r1) fun y5 =>
    some (y5.Page, true)
  else
    some ((⟨0, 0, (Vector.replicate 16 (⟨false, []⟩ : Je))⟩ : J9), false)
theorem Jeu {x0 : T_api_Pool} {x1 : Int} {o : J9 × Bool} (h : J5f x0 x1 = some o) :
    rk (J5 p) J6w 0 [] (X (J5 p) J5d ⟨[(0, .data (J6 x0)), (1, .p (.i .i64 x1))], []⟩) = JdV o := by
  unfold J5f at h
  obtain ⟨r1, h2, h⟩ := bi h
  have f3 := Ji3 p h2
  try simp only [Nf] at f3
  try simp only [↓Da, Ua, J5d, J2, J0, J1, J8, J4, *, ↓reduceIte, Nat.reduceEqDiff, Nat.reduceAdd, Nat.reduceLT, Nat.reduceMul]
  rcases Jg h with ⟨h4, h⟩ | ⟨h4, h⟩
  · obtain ⟨y5, h6, h⟩ := bi h
    have f7 := J3b (r := J3) h6
    try simp only [Nf] at f7
    obtain rfl := sj h
    try simp only [↓Da, Ua, J5d, J2, J0, J1, J8, J4, JdA, *, ↓reduceIte, Nat.reduceEqDiff, Nat.reduceAdd, Nat.reduceLT, Nat.reduceMul]
    rfl
  · obtain rfl := sj h
    try simp only [↓Da, Ua, J5d, J2, J0, J1, J8, J4, JdA, *, ↓reduceIte, Nat.reduceEqDiff, Nat.reduceAdd, Nat.reduceLT, Nat.reduceMul]
    rfl
theorem JiS {x0 : T_api_Pool} {x1 : Int} {o : J9 × Bool} (h : J5f x0 x1 = some o) : AF (J5 p) J6q [.data (J6 x0), .p (.i .i64 x1)] [] = JdV o :=
  (J1e (J5 p) (Jjc p) rfl).trans (Jeu p h)
theorem Jjp {x0 : T_api_Pool} {x1 : Int} {o : J9 × Bool} (h : J5f x0 x1 = some o) : ∀ ws new st, (Jr (AF (J5 p)) J6q ([.data (J6 x0), .p (.i .i64 x1)], ws) 0 new).run st = some ⟨.tup [.data (Ja o.1), .p (.b o.2)], ws⟩ := JD rfl (JiS p h) rfl
def JaF  (r : Bool) : Option Res := some (.p (.b r), [])
def J3j  : Option (Bool) :=
  Option.bind (J31 2) fun r1 =>
  Option.bind (J1M r1.1 (⟨1, 0, (Vector.replicate 16 (⟨false, []⟩ : Je))⟩ : J9)) fun r4 =>
  Option.bind (J1M r4.1 (⟨2, 0, (Vector.replicate 16 (⟨false, []⟩ : Je))⟩ : J9)) fun r7 =>
  Option.bind (J2F r7.1) fun r10 =>
  if ((r1.2 : Int) == 0) then
    if ((r4.2 : Int) == 0) then
      if ((r7.2 : Int) == 0) then
        if ((r10.2.2 : Int) == 0) then
          if ((r10.2.1 : Int) == 1) then
            if ((((List.length r10.1.Frames : Nat) : Int) : Int) == 2) then
              Option.bind (idx r10.1.Frames 0) fun y19 =>
              if y19.Used then
                some false
              else
                Option.bind (idx r10.1.Frames 1) fun y23 =>
                some (!y23.Used)
            else
              some false
          else
            some false
        else
          some false
      else
        some false
    else
      some false
  else
    some false
theorem Jc7  {o : Bool} (h : J3j = some o) :
    rk (J5 p) J4a 0 [] (X (J5 p) J00 ⟨[], []⟩) = JaF o := by
  unfold J3j at h
  obtain ⟨r1, h2, h⟩ := bi h
  have f3 := JdB p h2
  try simp only [Nf] at f3
  obtain ⟨r4, h5, h⟩ := bi h
  have f6 := Jan p h5
  try simp only [Nf] at f6
  obtain ⟨r7, h8, h⟩ := bi h
  have f9 := Jan p h8
  try simp only [Nf] at f9
  obtain ⟨r10, h11, h⟩ := bi h
  have f12 := Jg3 p h11
  try simp only [Nf] at f12
  try simp only [↓Da, Ua, J00, J2, J0, J1, J8, J4, *, ↓reduceIte, Nat.reduceEqDiff, Nat.reduceAdd, Nat.reduceLT, Nat.reduceMul]
  rcases Jg h with ⟨h13, h⟩ | ⟨h13, h⟩
  · have h13n : ((r1.2 : Int) != 0) = false := by rw [bne, h13]; rfl
    try simp only [↓Da, Ua, J00, J2, J0, J1, J8, J4, *, ↓reduceIte, Nat.reduceEqDiff, Nat.reduceAdd, Nat.reduceLT, Nat.reduceMul]
    rcases Jg h with ⟨h14, h⟩ | ⟨h14, h⟩
    · have h14n : ((r4.2 : Int) != 0) = false := by rw [bne, h14]; rfl
      try simp only [↓Da, Ua, J00, J2, J0, J1, J8, J4, *, ↓reduceIte, Nat.reduceEqDiff, Nat.reduceAdd, Nat.reduceLT, Nat.reduceMul]
      rcases Jg h with ⟨h15, h⟩ | ⟨h15, h⟩
      · have h15n : ((r7.2 : Int) != 0) = false := by rw [bne, h15]; rfl
        try simp only [↓Da, Ua, J00, J2, J0, J1, J8, J4, *, ↓reduceIte, Nat.reduceEqDiff, Nat.reduceAdd, Nat.reduceLT, Nat.reduceMul]
        rcases Jg h with ⟨h16, h⟩ | ⟨h16, h⟩
        · have h16n : ((r10.2.2 : Int) != 0) = false := by rw [bne, h16]; rfl
          try simp only [↓Da, Ua, J00, J2, J0, J1, J8, J4, *, ↓reduceIte, Nat.reduceEqDiff, Nat.reduceAdd, Nat.reduceLT, Nat.reduceMul]
          rcases Jg h with ⟨h17, h⟩ | ⟨h17, h⟩
          · have h17n : ((r10.2.1 : Int) != 1) = false := by rw [bne, h17]; rfl
            try simp only [↓Da, Ua, J00, J2, J0, J1, J8, J4, *, ↓reduceIte, Nat.reduceEqDiff, Nat.reduceAdd, Nat.reduceLT, Nat.reduceMul]
            rcases Jg h with ⟨h18, h⟩ | ⟨h18, h⟩
            · have h18n : ((((List.length r10.1.Frames : Nat) : Int) : Int) != 2) = false := by rw [bne, h18]; rfl
              obtain ⟨y19, h20, h⟩ := bi h
              have f21 := J3b (r := J3) h20
              try simp only [Nf] at f21
              try simp only [↓Da, Ua, J00, J2, J0, J1, J8, J4, *, ↓reduceIte, Nat.reduceEqDiff, Nat.reduceAdd, Nat.reduceLT, Nat.reduceMul]
              rcases Jg h with ⟨h22, h⟩ | ⟨h22, h⟩
              · obtain rfl := sj h
                try simp only [↓Da, Ua, J00, J2, J0, J1, J8, J4, J2J, *, ↓reduceIte, Nat.reduceEqDiff, Nat.reduceAdd, Nat.reduceLT, Nat.reduceMul]
                rfl
              · obtain ⟨y23, h24, h⟩ := bi h
                have f25 := J3b (r := J3) h24
                try simp only [Nf] at f25
                obtain rfl := sj h
                try simp only [↓Da, Ua, J00, J2, J0, J1, J8, J4, J2J, *, ↓reduceIte, Nat.reduceEqDiff, Nat.reduceAdd, Nat.reduceLT, Nat.reduceMul]
                rfl
            · have h18n : ((((List.length r10.1.Frames : Nat) : Int) : Int) != 2) = true := by rw [bne, h18]; rfl
              obtain rfl := sj h
              try simp only [↓Da, Ua, J00, J2, J0, J1, J8, J4, J2J, *, ↓reduceIte, Nat.reduceEqDiff, Nat.reduceAdd, Nat.reduceLT, Nat.reduceMul]
              rfl
          · have h17n : ((r10.2.1 : Int) != 1) = true := by rw [bne, h17]; rfl
            obtain rfl := sj h
            try simp only [↓Da, Ua, J00, J2, J0, J1, J8, J4, J2J, *, ↓reduceIte, Nat.reduceEqDiff, Nat.reduceAdd, Nat.reduceLT, Nat.reduceMul]
            rfl
        · have h16n : ((r10.2.2 : Int) != 0) = true := by rw [bne, h16]; rfl
          obtain rfl := sj h
          try simp only [↓Da, Ua, J00, J2, J0, J1, J8, J4, J2J, *, ↓reduceIte, Nat.reduceEqDiff, Nat.reduceAdd, Nat.reduceLT, Nat.reduceMul]
          rfl
      · have h15n : ((r7.2 : Int) != 0) = true := by rw [bne, h15]; rfl
        obtain rfl := sj h
        try simp only [↓Da, Ua, J00, J2, J0, J1, J8, J4, J2J, *, ↓reduceIte, Nat.reduceEqDiff, Nat.reduceAdd, Nat.reduceLT, Nat.reduceMul]
        rfl
    · have h14n : ((r4.2 : Int) != 0) = true := by rw [bne, h14]; rfl
      obtain rfl := sj h
      try simp only [↓Da, Ua, J00, J2, J0, J1, J8, J4, J2J, *, ↓reduceIte, Nat.reduceEqDiff, Nat.reduceAdd, Nat.reduceLT, Nat.reduceMul]
      rfl
  · have h13n : ((r1.2 : Int) != 0) = true := by rw [bne, h13]; rfl
    obtain rfl := sj h
    try simp only [↓Da, Ua, J00, J2, J0, J1, J8, J4, J2J, *, ↓reduceIte, Nat.reduceEqDiff, Nat.reduceAdd, Nat.reduceLT, Nat.reduceMul]
    rfl
theorem JfI  {o : Bool} (h : J3j = some o) : AF (J5 p) J4d [] [] = JaF o :=
  (J1e (J5 p) (Jg0 p) rfl).trans (Jc7 p h)
theorem JfN  {o : Bool} (h : J3j = some o) : ∀ ws new st, (Jr (AF (J5 p)) J4d ([], ws) 0 new).run st = some ⟨.p (.b o), ws⟩ := JD rfl (JfI p h) rfl
def J2w  (r : Bool) : Option Res := some (.p (.b r), [])
def J7y  (o : (Int × Int × T_pagemenddraw_Codes × T_api_Pool) ⊕ (Bool)) : Option Res := match o with
  | .inl s => rk (J5 p) J0q 0 [.bl 0, .td 2 [2, 4, 7], .sq (.keep [4, 7] J09)] (X (J5 p) (.lp 2 [3, 4, 7, 8] Jo) ⟨[(3, .ptr 0 0), (4, .ptr 1 0), (7, .p (.i .i64 s.1)), (8, .p (.i .i64 s.2.1))], [.box (List.map AV.p (J7 s.2.2.1)), .box (List.map AV.p (J6 s.2.2.2))]⟩)
  | .inr o => J2w o
def J0k (x7 : Int) (x8 : Int) (b0 : T_pagemenddraw_Codes) (b1 : T_api_Pool) : Option (((Int × Int × T_pagemenddraw_Codes × T_api_Pool) ⊕ (Bool))) :=
  Option.bind (J3Q b1) fun r1 =>
  if (((((List.length r1 : Nat) : Int) : Int) == 1) == (decide (x8 > 0))) then
    if (decide (x8 > 0)) then
      Option.bind (idx r1 0) fun y6 =>
      if (y6 == (⟨4, x8, x7⟩ : T_api_Dirty)) then
        Option.bind (J2f b1 4) fun r11 =>
        if (((r11.2 : Int) == 23) == true) then
          some (.inl (x7, x8, b0, b1))
        else
          some (.inr false)
      else
        some (.inr false)
    else
      Option.bind (J2f b1 4) fun r15 =>
      if (((r15.2 : Int) == 23) == false) then
        some (.inl (x7, x8, b0, b1))
      else
        some (.inr false)
  else
    some (.inr false)
theorem J1Y {x7 : Int} {x8 : Int} {b0 : T_pagemenddraw_Codes} {b1 : T_api_Pool} {o : ((Int × Int × T_pagemenddraw_Codes × T_api_Pool) ⊕ (Bool))} (h : J0k x7 x8 b0 b1 = some o) :
    rk (J5 p) J0q 0 [.bl 1, .lo 2 [3, 4, 7, 8] Jo, .bl 0, .td 2 [2, 4, 7], .sq (.keep [4, 7] J09)] (X (J5 p) JW ⟨[(3, .ptr 0 0), (4, .ptr 1 0), (7, .p (.i .i64 x7)), (8, .p (.i .i64 x8))], [.box (List.map AV.p (J7 b0)), .box (List.map AV.p (J6 b1))]⟩) = (J7y p) o := by
  unfold J0k at h
  obtain ⟨r1, h2, h⟩ := bi h
  have f3 := JgG p h2
  try simp only [Nf] at f3
  try simp only [↓Da, Ua, JW, J2, J0, J1, J8, J0u, J4, *, ↓reduceIte, Nat.reduceEqDiff, Nat.reduceAdd, Nat.reduceLT, Nat.reduceMul]
  rcases Jg h with ⟨h4, h⟩ | ⟨h4, h⟩
  · try simp only [↓Da, Ua, JW, J2, J0, J1, J8, J0u, J4, *, ↓reduceIte, Nat.reduceEqDiff, Nat.reduceAdd, Nat.reduceLT, Nat.reduceMul]
    rcases Jg h with ⟨h5, h⟩ | ⟨h5, h⟩
    · try rw [h5] at h4
      obtain ⟨y6, h7, h⟩ := bi h
      have f8 := J3b (r := Jc) h7
      try simp only [Nf] at f8
      try simp only [↓Da, Ua, JW, J2, J0, J1, J8, J0u, J4, J5m, *, ↓reduceIte, Nat.reduceEqDiff, Nat.reduceAdd, Nat.reduceLT, Nat.reduceMul]
      rcases Jg h with ⟨h10, h⟩ | ⟨h10, h⟩
      · obtain ⟨r11, h12, h⟩ := bi h
        have f13 := JcG p h12
        try simp only [Nf] at f13
        try simp only [↓Da, Ua, JW, J2, J0, J1, J8, J0u, J4, J5m, *, ↓reduceIte, Nat.reduceEqDiff, Nat.reduceAdd, Nat.reduceLT, Nat.reduceMul]
        rcases Jg h with ⟨h14, h⟩ | ⟨h14, h⟩
        · obtain rfl := sj h
          try simp only [↓Da, Ua, JW, J2, J0, J1, J8, J0u, J4, J5m, *, ↓reduceIte, Nat.reduceEqDiff, Nat.reduceAdd, Nat.reduceLT, Nat.reduceMul]
          rfl
        · obtain rfl := sj h
          try simp only [↓Da, Ua, JW, J2, J0, J1, J8, J0u, J4, J5m, J0r, *, ↓reduceIte, Nat.reduceEqDiff, Nat.reduceAdd, Nat.reduceLT, Nat.reduceMul]
          rfl
      · obtain rfl := sj h
        try simp only [↓Da, Ua, JW, J2, J0, J1, J8, J0u, J4, J5m, J0r, *, ↓reduceIte, Nat.reduceEqDiff, Nat.reduceAdd, Nat.reduceLT, Nat.reduceMul]
        rfl
    · try rw [h5] at h4
      obtain ⟨r15, h16, h⟩ := bi h
      have f17 := JcG p h16
      try simp only [Nf] at f17
      try simp only [↓Da, Ua, JW, J2, J0, J1, J8, J0u, J4, *, ↓reduceIte, Nat.reduceEqDiff, Nat.reduceAdd, Nat.reduceLT, Nat.reduceMul]
      rcases Jg h with ⟨h18, h⟩ | ⟨h18, h⟩
      · obtain rfl := sj h
        try simp only [↓Da, Ua, JW, J2, J0, J1, J8, J0u, J4, *, ↓reduceIte, Nat.reduceEqDiff, Nat.reduceAdd, Nat.reduceLT, Nat.reduceMul]
        rfl
      · obtain rfl := sj h
        try simp only [↓Da, Ua, JW, J2, J0, J1, J8, J0u, J4, J0r, *, ↓reduceIte, Nat.reduceEqDiff, Nat.reduceAdd, Nat.reduceLT, Nat.reduceMul]
        rfl
  · obtain rfl := sj h
    try simp only [↓Da, Ua, JW, J2, J0, J1, J8, J0u, J4, J0r, *, ↓reduceIte, Nat.reduceEqDiff, Nat.reduceAdd, Nat.reduceLT, Nat.reduceMul]
    rfl
def J3X (x7 : Int) (b1 : T_api_Pool) : Option (Bool) :=
  Option.bind (J5f b1 4) fun r1 =>
  if r1.2 then
    if ((r1.1.LSN : Int) == x7) then
      Option.bind (J2I r1.1) fun r6 =>
      some r6
    else
      some false
  else
    some false
theorem JaH {x7 : Int} {b1 : T_api_Pool} {B0 : List PV} {o : Bool} (h : J3X x7 b1 = some o) :
    rk (J5 p) J0q 0 [] (X (J5 p) J09 ⟨[(4, .ptr 1 0), (7, .p (.i .i64 x7))], [.box (List.map AV.p B0), .box (List.map AV.p (J6 b1))]⟩) = J2w o := by
  unfold J3X at h
  obtain ⟨r1, h2, h⟩ := bi h
  have f3 := Jjp p h2
  try simp only [Nf] at f3
  try simp only [↓Da, Ua, J09, J2, J0, J1, J8, J4, *, ↓reduceIte, Nat.reduceEqDiff, Nat.reduceAdd, Nat.reduceLT, Nat.reduceMul]
  rcases Jg h with ⟨h4, h⟩ | ⟨h4, h⟩
  · try simp only [↓Da, Ua, J09, J2, J0, J1, J8, J4, *, ↓reduceIte, Nat.reduceEqDiff, Nat.reduceAdd, Nat.reduceLT, Nat.reduceMul]
    rcases Jg h with ⟨h5, h⟩ | ⟨h5, h⟩
    · obtain ⟨r6, h7, h⟩ := bi h
      have f8 := Jg8 p h7
      try simp only [Nf] at f8
      obtain rfl := sj h
      try simp only [↓Da, Ua, J09, J2, J0, J1, J8, J4, J0r, *, ↓reduceIte, Nat.reduceEqDiff, Nat.reduceAdd, Nat.reduceLT, Nat.reduceMul]
      rfl
    · obtain rfl := sj h
      try simp only [↓Da, Ua, J09, J2, J0, J1, J8, J4, J0r, *, ↓reduceIte, Nat.reduceEqDiff, Nat.reduceAdd, Nat.reduceLT, Nat.reduceMul]
      rfl
  · obtain rfl := sj h
    try simp only [↓Da, Ua, J09, J2, J0, J1, J8, J4, J0r, *, ↓reduceIte, Nat.reduceEqDiff, Nat.reduceAdd, Nat.reduceLT, Nat.reduceMul]
    rfl
def J16 (x7 : Int) (x8 : Int) (b0 : T_pagemenddraw_Codes) (b1 : T_api_Pool) : Option (((Int × Int × T_pagemenddraw_Codes × T_api_Pool) ⊕ (Bool))) :=
  Option.bind (J3u b0) fun r1 =>
  if (decide (r1.1 > 0)) then
    Option.bind (J2D r1.2 3) fun r5 =>
    if (decide (r5.1 > 0)) then
      Option.bind (J2D r5.2 3) fun r9 =>
      Option.bind (J2G b1 (⟨4, (IntKind.wrap .i64 (x7 + (IntKind.wrap .i64 (1 + r9.1)))), (Vector.replicate 16 (⟨false, []⟩ : Je))⟩ : J9)) fun r12 =>
      if ((r12.2 : Int) != 0) then
        some (.inr false)
      else
        if ((x8 : Int) == 0) then
          J0k (IntKind.wrap .i64 (x7 + (IntKind.wrap .i64 (1 + r9.1)))) (IntKind.wrap .i64 (x7 + (IntKind.wrap .i64 (1 + r9.1)))) r9.2 r12.1
        else
          J0k (IntKind.wrap .i64 (x7 + (IntKind.wrap .i64 (1 + r9.1)))) x8 r9.2 r12.1
    else
      Option.bind (J2D r5.2 4) fun r17 =>
      Option.bind (J3M b1 4 (J71 0 (IntKind.wrap .i64 (x7 - r17.1)))) fun r20 =>
      if ((r20.2 : Int) != 0) then
        some (.inr false)
      else
        if (((J71 0 (IntKind.wrap .i64 (x7 - r17.1))) : Int) == x7) then
          J0k x7 0 r17.2 r20.1
        else
          if (decide (x8 > 0)) then
            if (decide (x8 ≤ (J71 0 (IntKind.wrap .i64 (x7 - r17.1))))) then
              J0k x7 (IntKind.wrap .i64 ((J71 0 (IntKind.wrap .i64 (x7 - r17.1))) + 1)) r17.2 r20.1
            else
              J0k x7 x8 r17.2 r20.1
          else
            J0k x7 x8 r17.2 r20.1
  else
    Option.map (fun o => .inr o) (J3X x7 b1)
theorem J7B {x7 : Int} {x8 : Int} {b0 : T_pagemenddraw_Codes} {b1 : T_api_Pool} {o : ((Int × Int × T_pagemenddraw_Codes × T_api_Pool) ⊕ (Bool))} (h : J16 x7 x8 b0 b1 = some o) :
    rk (J5 p) J0q 0 [.lo 2 [3, 4, 7, 8] Jo, .bl 0, .td 2 [2, 4, 7], .sq (.keep [4, 7] J09)] (X (J5 p) Jo ⟨[(3, .ptr 0 0), (4, .ptr 1 0), (7, .p (.i .i64 x7)), (8, .p (.i .i64 x8))], [.box (List.map AV.p (J7 b0)), .box (List.map AV.p (J6 b1))]⟩) = (J7y p) o := by
  unfold J16 at h
  obtain ⟨r1, h2, h⟩ := bi h
  have f3 : ∀ ws new s, J2Q ws s [0] [List.map AV.p (J7 b0)] → (Jr (AF (J5 p)) J2x ([.ptr 0 0], ws) 0 new).run s = some ⟨.p (.i .i64 r1.1), ws ++ [(0, .box (List.map AV.p (J7 r1.2)))]⟩ := J3F (args' := [.ptr 0 0]) (bs := [0]) (css := [List.map AV.p (J7 b0)]) (css' := [List.map AV.p (J7 r1.2)]) rfl rfl rfl (by simp [J0J, JV]) (Jc3 p h2) rfl rfl (by simp [J0J, JV])
  try simp only [Nf] at f3
  try simp only [↓Da, Ua, Jo, J2, J0, J1, J8, Jh, J4, *, ↓reduceIte, Nat.reduceEqDiff, Nat.reduceAdd, Nat.reduceLT, Nat.reduceMul]
  rcases Jg h with ⟨h4, h⟩ | ⟨h4, h⟩
  · obtain ⟨r5, h6, h⟩ := bi h
    have f7 : ∀ ws new s, J2Q ws s [0] [List.map AV.p (J7 r1.2)] → (Jr (AF (J5 p)) J05 ([.ptr 0 0, .p (.i .i64 3)], ws) 0 new).run s = some ⟨.p (.i .i64 r5.1), ws ++ [(0, .box (List.map AV.p (J7 r5.2)))]⟩ := J3F (args' := [.ptr 0 0, .p (.i .i64 3)]) (bs := [0]) (css := [List.map AV.p (J7 r1.2)]) (css' := [List.map AV.p (J7 r5.2)]) rfl rfl rfl (by simp [J0J, JV]) (J6D p h6) rfl rfl (by simp [J0J, JV])
    try simp only [Nf] at f7
    try simp only [↓Da, Ua, Jo, J2, J0, J1, J8, Jh, J4, *, ↓reduceIte, Nat.reduceEqDiff, Nat.reduceAdd, Nat.reduceLT, Nat.reduceMul]
    rcases Jg h with ⟨h8, h⟩ | ⟨h8, h⟩
    · obtain ⟨r9, h10, h⟩ := bi h
      have f11 : ∀ ws new s, J2Q ws s [0] [List.map AV.p (J7 r5.2)] → (Jr (AF (J5 p)) J05 ([.ptr 0 0, .p (.i .i64 3)], ws) 0 new).run s = some ⟨.p (.i .i64 r9.1), ws ++ [(0, .box (List.map AV.p (J7 r9.2)))]⟩ := J3F (args' := [.ptr 0 0, .p (.i .i64 3)]) (bs := [0]) (css := [List.map AV.p (J7 r5.2)]) (css' := [List.map AV.p (J7 r9.2)]) rfl rfl rfl (by simp [J0J, JV]) (J6D p h10) rfl rfl (by simp [J0J, JV])
      try simp only [Nf] at f11
      obtain ⟨r12, h13, h⟩ := bi h
      have f14 := Jg4 p h13
      try simp only [Nf] at f14
      try simp only [↓Da, Ua, Jo, J2, J0, J1, J8, Jh, J4, *, ↓reduceIte, Nat.reduceEqDiff, Nat.reduceAdd, Nat.reduceLT, Nat.reduceMul]
      rcases Jg h with ⟨h15, h⟩ | ⟨h15, h⟩
      · obtain rfl := sj h
        try simp only [↓Da, Ua, Jo, J2, J0, J1, J8, Jh, J4, J0r, *, ↓reduceIte, Nat.reduceEqDiff, Nat.reduceAdd, Nat.reduceLT, Nat.reduceMul]
        rfl
      · try simp only [↓Da, Ua, Jo, J2, J0, J1, J8, Jh, J4, *, ↓reduceIte, Nat.reduceEqDiff, Nat.reduceAdd, Nat.reduceLT, Nat.reduceMul]
        rcases Jg h with ⟨h16, h⟩ | ⟨h16, h⟩
        · have h16n : ((x8 : Int) != 0) = false := by rw [bne, h16]; rfl
          try simp only [↓Da, Ua, Jo, J2, J0, J1, J8, Jh, J4, *, ↓reduceIte, Nat.reduceEqDiff, Nat.reduceAdd, Nat.reduceLT, Nat.reduceMul]
          have e0 := J1Y p h
          first | exact e0 | (simp only [*] at e0; exact e0)
        · have h16n : ((x8 : Int) != 0) = true := by rw [bne, h16]; rfl
          try simp only [↓Da, Ua, Jo, J2, J0, J1, J8, Jh, J4, *, ↓reduceIte, Nat.reduceEqDiff, Nat.reduceAdd, Nat.reduceLT, Nat.reduceMul]
          have e0 := J1Y p h
          first | exact e0 | (simp only [*] at e0; exact e0)
    · obtain ⟨r17, h18, h⟩ := bi h
      have f19 : ∀ ws new s, J2Q ws s [0] [List.map AV.p (J7 r5.2)] → (Jr (AF (J5 p)) J05 ([.ptr 0 0, .p (.i .i64 4)], ws) 0 new).run s = some ⟨.p (.i .i64 r17.1), ws ++ [(0, .box (List.map AV.p (J7 r17.2)))]⟩ := J3F (args' := [.ptr 0 0, .p (.i .i64 4)]) (bs := [0]) (css := [List.map AV.p (J7 r5.2)]) (css' := [List.map AV.p (J7 r17.2)]) rfl rfl rfl (by simp [J0J, JV]) (J6D p h18) rfl rfl (by simp [J0J, JV])
      try simp only [Nf] at f19
      obtain ⟨r20, h21, h⟩ := bi h
      have f22 := JgJ p h21
      try simp only [Nf] at f22
      try simp only [↓Da, Ua, Jo, J2, J0, J1, J8, Jh, J4, *, ↓reduceIte, Nat.reduceEqDiff, Nat.reduceAdd, Nat.reduceLT, Nat.reduceMul]
      rcases Jg h with ⟨h23, h⟩ | ⟨h23, h⟩
      · obtain rfl := sj h
        try simp only [↓Da, Ua, Jo, J2, J0, J1, J8, Jh, J4, J0r, *, ↓reduceIte, Nat.reduceEqDiff, Nat.reduceAdd, Nat.reduceLT, Nat.reduceMul]
        rfl
      · try simp only [↓Da, Ua, Jo, J2, J0, J1, J8, Jh, J4, *, ↓reduceIte, Nat.reduceEqDiff, Nat.reduceAdd, Nat.reduceLT, Nat.reduceMul]
        rcases Jg h with ⟨h24, h⟩ | ⟨h24, h⟩
        · try simp only [↓Da, Ua, Jo, J2, J0, J1, J8, Jh, J4, *, ↓reduceIte, Nat.reduceEqDiff, Nat.reduceAdd, Nat.reduceLT, Nat.reduceMul]
          have e0 := J1Y p h
          first | exact e0 | (simp only [*] at e0; exact e0)
        · try simp only [↓Da, Ua, Jo, J2, J0, J1, J8, Jh, J4, *, ↓reduceIte, Nat.reduceEqDiff, Nat.reduceAdd, Nat.reduceLT, Nat.reduceMul]
          rcases Jg h with ⟨h25, h⟩ | ⟨h25, h⟩
          · try simp only [↓Da, Ua, Jo, J2, J0, J1, J8, Jh, J4, *, ↓reduceIte, Nat.reduceEqDiff, Nat.reduceAdd, Nat.reduceLT, Nat.reduceMul]
            rcases Jg h with ⟨h26, h⟩ | ⟨h26, h⟩
            · try simp only [↓Da, Ua, Jo, J2, J0, J1, J8, Jh, J4, *, ↓reduceIte, Nat.reduceEqDiff, Nat.reduceAdd, Nat.reduceLT, Nat.reduceMul]
              have e0 := J1Y p h
              first | exact e0 | (simp only [*] at e0; exact e0)
            · try simp only [↓Da, Ua, Jo, J2, J0, J1, J8, Jh, J4, *, ↓reduceIte, Nat.reduceEqDiff, Nat.reduceAdd, Nat.reduceLT, Nat.reduceMul]
              have e0 := J1Y p h
              first | exact e0 | (simp only [*] at e0; exact e0)
          · try simp only [↓Da, Ua, Jo, J2, J0, J1, J8, Jh, J4, *, ↓reduceIte, Nat.reduceEqDiff, Nat.reduceAdd, Nat.reduceLT, Nat.reduceMul]
            have e0 := J1Y p h
            first | exact e0 | (simp only [*] at e0; exact e0)
  · obtain ⟨o', h', rfl⟩ := mi h
    try simp only [↓Da, Ua, Jo, J2, J0, J1, J8, Jh, J4, *, ↓reduceIte, Nat.reduceEqDiff, Nat.reduceAdd, Nat.reduceLT, Nat.reduceMul]
    have e0 := JaH p (B0 := (J7 r1.2)) h'
    first | exact e0 | (simp only [*] at e0; exact e0)
def J7z  (s : Int × Int × T_pagemenddraw_Codes × T_api_Pool) : Option (Bool) :=
  J03 (fun s => J16  s.1 s.2.1 s.2.2.1 s.2.2.2) s
theorem J9N  {s : Int × Int × T_pagemenddraw_Codes × T_api_Pool} {o : Bool} (h : J7z  s = some o) :
    rk (J5 p) J0q 0 [.bl 0, .td 2 [2, 4, 7], .sq (.keep [4, 7] J09)] (X (J5 p) (.lp 2 [3, 4, 7, 8] Jo) ⟨[(3, .ptr 0 0), (4, .ptr 1 0), (7, .p (.i .i64 s.1)), (8, .p (.i .i64 s.2.1))], [.box (List.map AV.p (J7 s.2.2.1)), .box (List.map AV.p (J6 s.2.2.2))]⟩) = J2w o := by
  have h0 : J03 (fun s => J16  s.1 s.2.1 s.2.2.1 s.2.2.2) s = some o := h
  exact J3a (P := fun (s : Int × Int × T_pagemenddraw_Codes × T_api_Pool) (o : Bool) => rk (J5 p) J0q 0 [.bl 0, .td 2 [2, 4, 7], .sq (.keep [4, 7] J09)] (X (J5 p) (.lp 2 [3, 4, 7, 8] Jo) ⟨[(3, .ptr 0 0), (4, .ptr 1 0), (7, .p (.i .i64 s.1)), (8, .p (.i .i64 s.2.1))], [.box (List.map AV.p (J7 s.2.2.1)), .box (List.map AV.p (J6 s.2.2.2))]⟩) = J2w o) (fun s r hs => by rw [J2L]; exact J7B p hs) (fun s s1 r hs ih => by rw [J2L]; exact (J7B p hs).trans ih) h0
def J3v (x0 : List Int) : Option (Bool) :=
  Option.bind (J3j) fun r1 =>
  if r1 then
    Option.bind (J3A x0 120) fun r5 =>
    Option.bind (J31 1) fun r8 =>
    Option.bind (J1M r8.1 (⟨4, 0, (Vector.replicate 16 (⟨false, []⟩ : Je))⟩ : J9)) fun r11 =>
    if ((r8.2 : Int) != 0) then
      some false
    else
      if ((r11.2 : Int) != 0) then
        some false
      else
        J7z (0, 0, r5, r11.1)
  else
    some false
theorem J9q {x0 : List Int} {o : Bool} (h : J3v x0 = some o) :
    rk (J5 p) J0q 0 [] (X (J5 p) J0G ⟨[(0, .p (.sl 1 (List.map (r_i .u8) x0)))], []⟩) = J2w o := by
  unfold J3v at h
  obtain ⟨r1, h2, h⟩ := bi h
  have f3 := JfN p h2
  try simp only [Nf] at f3
  try simp only [↓Da, Ua, J0G, J2, J0, J1, J8, Jh, J4, *, ↓reduceIte, Nat.reduceEqDiff, Nat.reduceAdd, Nat.reduceLT, Nat.reduceMul]
  rcases Jg h with ⟨h4, h⟩ | ⟨h4, h⟩
  · obtain ⟨r5, h6, h⟩ := bi h
    have f7 : ∀ ws new s, (Jr (AF (J5 p)) J6f ([.p (.sl 1 (List.map (r_i .u8) x0)), .p (.i .i64 120)], ws) 1 new).run s = some ⟨.ptr new 0, ws ++ [(new, .box (List.map AV.p (J7 r5)))]⟩ := JjA rfl (Jjo p h6) (JV _)
    try simp only [Nf] at f7
    obtain ⟨r8, h9, h⟩ := bi h
    have f10 := JdB p h9
    try simp only [Nf] at f10
    obtain ⟨r11, h12, h⟩ := bi h
    have f13 := Jan p h12
    try simp only [Nf] at f13
    try simp only [↓Da, Ua, J0G, J2, J0, J1, J8, Jh, J4, *, ↓reduceIte, Nat.reduceEqDiff, Nat.reduceAdd, Nat.reduceLT, Nat.reduceMul]
    rcases Jg h with ⟨h14, h⟩ | ⟨h14, h⟩
    · obtain rfl := sj h
      try simp only [↓Da, Ua, J0G, J2, J0, J1, J8, Jh, J4, J0r, *, ↓reduceIte, Nat.reduceEqDiff, Nat.reduceAdd, Nat.reduceLT, Nat.reduceMul]
      rfl
    · try simp only [↓Da, Ua, J0G, J2, J0, J1, J8, Jh, J4, *, ↓reduceIte, Nat.reduceEqDiff, Nat.reduceAdd, Nat.reduceLT, Nat.reduceMul]
      rcases Jg h with ⟨h15, h⟩ | ⟨h15, h⟩
      · try try rw [h4] at h15
        obtain rfl := sj h
        try simp only [↓Da, Ua, J0G, J2, J0, J1, J8, Jh, J4, J0r, *, ↓reduceIte, Nat.reduceEqDiff, Nat.reduceAdd, Nat.reduceLT, Nat.reduceMul]
        rfl
      · try try rw [h4] at h15
        try simp only [↓Da, Ua, J0G, J2, J0, J1, J8, Jh, J4, *, ↓reduceIte, Nat.reduceEqDiff, Nat.reduceAdd, Nat.reduceLT, Nat.reduceMul]
        have e0 := J9N p h
        first | exact e0 | (simp only [*] at e0; exact e0)
  · obtain rfl := sj h
    try simp only [↓Da, Ua, J0G, J2, J0, J1, J8, Jh, J4, J0r, *, ↓reduceIte, Nat.reduceEqDiff, Nat.reduceAdd, Nat.reduceLT, Nat.reduceMul]
    rfl
theorem Jc5 {x0 : List Int} {o : Bool} (h : J3v x0 = some o) : AF (J5 p) J4I [.p (.sl 1 (List.map (r_i .u8) x0))] [] = J2w o :=
  (J1e (J5 p) (Jcc p) rfl).trans (J9q p h)
end
end Go.Am
end
section
end
section
namespace Go.Am
theorem J4w {n : Int} (h1 : -9223372036854775808 ≤ n) (h2 : n ≤ 9223372036854775807) : IntKind.i64.wrap n = n := by
  simp [IntKind.wrap_i64]; omega
theorem Jiu {α : Type} (l : List α) (k : Nat) : idx l (k : Int) = l[k]? := by simp [idx]
theorem J6d {α : Type} {n : Nat} (v : Vector α n) (k : Nat) (h : k < n) : J7G v (k : Int) = some v[k] := by
  have e : (0 : Int) ≤ k ∧ (k : Int) < n := by omega
  simp [J7G, e, h]
theorem J9E {n k : Nat} (h : k < n) : inb n (k : Int) = some () := by
  have e : (0 : Int) ≤ k ∧ (k : Int) < n := by omega
  simp [inb, e]
theorem J3P {k : Nat} (h : k < 1000000) : IntKind.i64.wrap ((k : Int) + 1) = ((k + 1 : Nat) : Int) := by
  rw [J4w (by omega) (by omega)]; simp
theorem J32 {σ ρ : Type} {f : σ → Option (σ ⊕ ρ)} (I : σ → Prop) (m : σ → Nat) (Q : ρ → Prop)
    (h : ∀ s, I s → (∃ s', f s = some (.inl s') ∧ I s' ∧ m s' < m s) ∨ (∃ r, f s = some (.inr r) ∧ Q r)) : ∀ s, I s → ∃ r, J03 f s = some r ∧ Q r := by
  have key : ∀ n s, m s ≤ n → I s → ∃ r, J03 f s = some r ∧ Q r := by
    intro n
    induction n with
    | zero =>
      intro s hm hs
      rcases h s hs with ⟨s', e, hs', hlt⟩ | ⟨r, e, hq⟩
      · omega
      · exact ⟨r, J2v e, hq⟩
    | succ n ih =>
      intro s hm hs
      rcases h s hs with ⟨s', e, hs', hlt⟩ | ⟨r, e, hq⟩
      · obtain ⟨r, hr, hq⟩ := ih s' (by omega) hs'
        exact ⟨r, (J3C e).trans hr, hq⟩
      · exact ⟨r, J2v e, hq⟩
  exact fun s hs => key (m s) s (Nat.le_refl _) hs
structure J4b (b : T_pagemenddraw_Codes) : Prop where
  at0 : 0 ≤ b.at_
  at1 : b.at_ ≤ b.l_.length
  len : b.l_.length ≤ 1000
  byte : ∀ x ∈ b.l_, 0 ≤ x ∧ x ≤ 255
theorem JjB {b : T_pagemenddraw_Codes} (hb : J4b b) {n : Int} (h1 : 1 ≤ n) (h2 : n ≤ 256) (m : Nat) : ∃ r b', J20 (m + 1) b n = some (r, b') ∧ J4b b' ∧ 0 ≤ r ∧ r < n := by
  obtain ⟨ha, hb1, hl, hx⟩ := hb
  simp only [J20, J1X]
  by_cases hc : b.at_ ≥ (b.l_.length : Int)
  · exact ⟨0, b, by simp [hc], ⟨ha, hb1, hl, hx⟩, by omega, by omega⟩
  · obtain ⟨k, hk⟩ : ∃ k : Nat, b.at_ = (k : Int) := ⟨b.at_.toNat, by omega⟩
    have hk2 : k < b.l_.length := by omega
    have hy := hx _ (List.getElem_mem hk2)
    have e1 : ¬ n < 1 := by omega
    have e2 : ¬ n > 256 := by omega
    have e3 : idx b.l_ b.at_ = some b.l_[k] := by rw [hk, Jiu, List.getElem?_eq_getElem hk2]
    have e4 : ¬ n = 0 := by omega
    refine ⟨(b.l_[k]).tmod n, ⟨b.l_, b.at_ + 1⟩, ?_, ⟨by show 0 ≤ b.at_ + 1; omega, by show b.at_ + 1 ≤ (b.l_.length : Int); omega, hl, hx⟩, Int.tmod_nonneg _ hy.1, Int.tmod_lt_of_pos _ (by omega)⟩
    simp only [hc, decide_false, e1, e2, e3, Option.bind_some, Jbq, e4, if_false, Bool.false_eq_true]
    rw [J4w (by omega) (by omega), J4w (by omega) (by omega)]
theorem Jn6 {b : T_pagemenddraw_Codes} (hb : J4b b) {n : Int} (h1 : 1 ≤ n) (h2 : n ≤ 256) : ∃ r b', J2D b n = some (r, b') ∧ J4b b' ∧ 0 ≤ r ∧ r < n := JjB hb h1 h2 11
theorem Jow {l : List Int} (h : ∀ x ∈ l, 0 ≤ x ∧ x ≤ 255) {n : Nat} (hn : n ≤ 1000) : ∃ b, J3A l (n : Int) = some b ∧ J4b b := by
  unfold J3A J4W
  by_cases hc : (l.length : Int) > n
  · have : Jd7 l none (some (n : Int)) = some (l.take n) := by
      have e1 : (0 : Int) ≤ n ∧ n ≤ l.length := by omega
      have e2 : n ≤ l.length := by omega
      simp [Jd7, Jh0, Jdd, e2]
    refine ⟨⟨l.take n, 0⟩, by simp [hc, this], ⟨by show (0 : Int) ≤ 0; omega, by show (0 : Int) ≤ _; omega, by simp; omega, fun x hx => h x (List.mem_of_mem_take hx)⟩⟩
  · exact ⟨⟨l, 0⟩, by simp [hc], ⟨by show (0 : Int) ≤ 0; omega, by show (0 : Int) ≤ _; omega, by show l.length ≤ 1000; omega, h⟩⟩
def J3L (lsn : Int) (c : Je) : Prop := c.Data.length ≤ 12 ∧ (c.Set = false → c.Data = []) ∧ (c.Set = true → lsn ≠ 0)
structure J8L (p : J9) : Prop where
  id0 : 0 ≤ p.ID
  id1 : p.ID < 64
  lsn0 : 0 ≤ p.LSN
  lsn1 : p.LSN ≤ 1099511627776
  cells : ∀ (i : Nat) (h : i < 16), J3L p.LSN (p.Cells[i])
theorem J8F {id lsn : Int} (h0 : 0 ≤ id) (h1 : id < 64) (h2 : 0 ≤ lsn) (h3 : lsn ≤ 1099511627776) : J8L ⟨id, lsn, Vector.replicate 16 ⟨false, []⟩⟩ :=
  ⟨h0, h1, h2, h3, fun i h => by simp [J3L]⟩
end Go.Am
end
section
namespace Go.Am
theorem Jpg (x : Int) : ∃ k : Nat, J3B .u32 x 15 = (k : Int) ∧ k < 16 := by
  have h : (BitVec.ofInt 32 x &&& BitVec.ofInt 32 15).toNat ≤ 15 := by
    rw [BitVec.toNat_and]
    exact Nat.and_le_right
  refine ⟨(BitVec.ofInt 32 x &&& BitVec.ofInt 32 15).toNat, ?_, by omega⟩
  show (((BitVec.ofInt 32 x &&& BitVec.ofInt 32 15).toNat : Nat) : Int) % 4294967296 = _
  omega
theorem JfO : ∃ v, J1D = some v := by
  have inner : ∀ (k : Nat) (b0 b1 : Vector Int 16), k < 16 → ∀ r : Int, ∃ o, J5c k k b0 b1 (r, 0) = some o ∧ ∃ v, o = .inl (((k + 1 : Nat) : Int), v) := by
    intro k b0 b1 hk r
    refine J32 (f := fun s : Int × Int => J0b k k b0 b1 s.1 s.2) (fun s => ∃ j : Nat, s.2 = j ∧ j ≤ 4) (fun s => (4 - s.2).toNat) _ (fun s ⟨j, hj, h4⟩ => ?_) (r, 0) ⟨0, rfl, by omega⟩
    obtain ⟨x, j'⟩ := s
    simp only at hj
    subst hj
    by_cases hlt : j < 4
    · left
      have e1 : ((j : Nat) : Int) < 4 := by omega
      have e2 : J9i .u32 x 1 = some (x.fdiv (2 ^ (min (1 : Int).toNat IntKind.u32.bits))) := rfl
      by_cases hb : J3B .u32 x 1 = 1
      · exact ⟨⟨_, ((j + 1 : Nat) : Int)⟩, by simp only [J0b, e1, decide_true, if_true, hb, beq_self_eq_true, e2, Option.bind_some, J3P (show j < 1000000 by omega)]; rfl, ⟨j + 1, rfl, by omega⟩, by simp; omega⟩
      · have e3 : (J3B .u32 x 1 == 1) = false := by simpa using hb
        exact ⟨⟨_, ((j + 1 : Nat) : Int)⟩, by simp only [J0b, e1, decide_true, if_true, e3, Bool.false_eq_true, if_false, e2, Option.bind_some, J3P (show j < 1000000 by omega)]; rfl, ⟨j + 1, rfl, by omega⟩, by simp; omega⟩
    · right
      have e1 : ¬ ((j : Nat) : Int) < 4 := by omega
      exact ⟨.inl (((k + 1 : Nat) : Int), JeY b1 k x), by simp only [J0b, e1, decide_false, Bool.false_eq_true, if_false, J2q, J2m, J9E hk, J6d _ k hk, Option.bind_some, Option.map_some, J3P (show k < 1000000 by omega)], _, rfl⟩
  obtain ⟨v, hv, _⟩ := J32 (f := fun s : Int × Vector Int 16 => J0x (Vector.replicate 16 0) s.1 s.2) (fun s => ∃ j : Nat, s.1 = j ∧ j ≤ 16) (fun s => (16 - s.1).toNat) (fun _ => True) (fun s ⟨j, hj, h4⟩ => by
    obtain ⟨j', b1⟩ := s
    simp only at hj
    subst hj
    by_cases hlt : j < 16
    · left
      have e1 : ((j : Nat) : Int) < 16 := by omega
      obtain ⟨o, ho, v, rfl⟩ := inner j (Vector.replicate 16 0) b1 hlt (IntKind.wrap .u32 (j : Int))
      exact ⟨⟨((j + 1 : Nat) : Int), v⟩, by simp only [J0x, e1, decide_true, if_true]; exact ho, ⟨j + 1, rfl, by omega⟩, by simp; omega⟩
    · right
      have e1 : ¬ ((j : Nat) : Int) < 16 := by omega
      exact ⟨b1, by simp only [J0x, e1, decide_false, Bool.false_eq_true, if_false, J2j, Option.map_some], trivial⟩) (0, Vector.replicate 16 0) ⟨0, rfl, by omega⟩
  exact ⟨v, hv⟩
theorem JiJ {l : List UInt8} {k : Nat} (h : k < l.length) : JeL l (k : Int) = some ((l[k]).toNat : Int) := by
  have e : (0 : Int) ≤ k := by omega
  simp [JeL, e, h]
theorem Joc (l : List UInt8) (hl : l.length ≤ 1000) : ∃ r, J21 l = some r := by
  obtain ⟨v, hv⟩ := JfO
  obtain ⟨r, hr, _⟩ := J32 (f := fun s : Int × Int => J1J l (l.length : Int) v s.1 s.2) (fun s => ∃ j : Nat, s.2 = j ∧ j ≤ l.length) (fun s => (l.length - s.2).toNat) (fun _ => True) (fun s ⟨j, hj, h4⟩ => by
    obtain ⟨x, j'⟩ := s
    simp only at hj
    subst hj
    by_cases hlt : j < l.length
    · left
      have e1 : ((j : Nat) : Int) < (l.length : Int) := by omega
      have e2 : ∀ z : Int, J9i .u32 z 4 = some (z.fdiv (2 ^ (min (4 : Int).toNat IntKind.u32.bits))) := fun _ => rfl
      have e3 : ∀ z : Int, ∃ y, inb 16 (J3B .u32 z 15) = some () ∧ J7G v (J3B .u32 z 15) = some y := by
        intro z
        obtain ⟨k, hk, hk2⟩ := Jpg z
        rw [hk]
        exact ⟨_, J9E hk2, J6d _ k hk2⟩
      obtain ⟨y1, a1, a2⟩ := e3 (J4V .u32 x (IntKind.wrap .u32 (((l[j]).toNat : Nat) : Int)))
      obtain ⟨y2, a3, a4⟩ := e3 (J4V .u32 ((J4V .u32 x (IntKind.wrap .u32 (((l[j]).toNat : Nat) : Int))).fdiv (2 ^ (min (4 : Int).toNat IntKind.u32.bits))) y1)
      exact ⟨⟨_, ((j + 1 : Nat) : Int)⟩, by simp only [J1J, e1, decide_true, if_true, JiJ hlt, Option.bind_some, e2, a1, a2, a3, a4, J3P (show j < 1000000 by omega)]; rfl, ⟨j + 1, rfl, by omega⟩, by simp; omega⟩
    · right
      have e1 : ¬ ((j : Nat) : Int) < (l.length : Int) := by omega
      exact ⟨_, by simp only [J1J, e1, decide_false, Bool.false_eq_true, if_false, J5n, Option.map_some]; rfl, trivial⟩) (4294967295, 0) ⟨0, rfl, by omega⟩
  exact ⟨r, by unfold J21; rw [hv]; exact hr⟩
theorem Jb2 (l : List UInt8) (n : Int) {k : Nat} (h1 : 1 ≤ k) (h8 : k ≤ 8) (hl : l.length ≤ 1000) : J3D l n (k : Int) = some (l ++ J1G n k) := by
  have e1 : ¬ ((k : Int) < 1 ∨ 8 < (k : Int)) := by omega
  have e2 : l.length + 8 ≤ 140737488355328 := by omega
  show Jez l n k = _
  rw [Jez, if_neg e1, if_pos e2]
  simp
theorem Jgv {a b : List UInt8} (ha : a.length ≤ 1000) (hb : b.length ≤ 1000) : J9h a b = some (a ++ b) := by
  have e : a.length + b.length ≤ 4611686018427387904 := by omega
  simp [J9h, e]
theorem JgX {n : Int} (h0 : 0 ≤ n) (h1 : n ≤ 1000) : J2V [0] n = some (List.replicate n.toNat 0) := by
  show JeN [0] n = _
  have e : (0 : Int) ≤ n ∧ n ≤ 9223372036854775807 ∧ ([0] : List UInt8).length * n.toNat ≤ 140737488355328 := by
    refine ⟨h0, by omega, ?_⟩
    simp; omega
  rw [JeN, if_pos e]
  have : ∀ k : Nat, (List.replicate k ([0] : List UInt8)).flatten = List.replicate k 0 := by
    intro k
    induction k with
    | zero => rfl
    | succ k ih => rw [List.replicate_succ, List.flatten_cons, ih]; rfl
  rw [this]
theorem JkE (p : J9) : ∃ b, J2u p = some b ∧ (b = true → ∀ (i : Nat) (h : i < 16), (p.Cells[i]).Data.length ≤ 12) ∧ ((∀ (i : Nat) (h : i < 16), J3L p.LSN p.Cells[i]) → b = true) := by
  refine J32 (f := fun s : Int => JX p.Cells p s) (fun s => ∃ j : Nat, s = j ∧ j ≤ 16 ∧ ∀ (i : Nat) (h : i < 16), i < j → (p.Cells[i]).Data.length ≤ 12) (fun s => (16 - s).toNat)
    (fun b => (b = true → ∀ (i : Nat) (h : i < 16), (p.Cells[i]).Data.length ≤ 12) ∧ ((∀ (i : Nat) (h : i < 16), J3L p.LSN p.Cells[i]) → b = true)) (fun s ⟨j, hj, h4, hc⟩ => ?_) 0 ⟨0, rfl, by omega, fun i h hh => by omega⟩
  subst hj
  by_cases hlt : j < 16
  · have e1 : ((j : Nat) : Int) < 16 := by omega
    have e2 := J6d p.Cells j hlt
    have e3 := J3P (show j < 1000000 by omega)
    have bad : ¬ J3L p.LSN p.Cells[j] → (∀ (i : Nat) (h : i < 16), J3L p.LSN p.Cells[i]) → false = true := fun h1 h2 => (h1 (h2 j hlt)).elim
    by_cases h12 : (((p.Cells[j]).Data.length : Nat) : Int) > 12
    · right
      exact ⟨false, by simp only [JX, e1, decide_true, if_true, e2, Option.bind_some, h12], fun h => (by cases h), bad fun h => by have := h.1; omega⟩
    · have nxt : ∀ (i : Nat) (h : i < 16), i < j + 1 → (p.Cells[i]).Data.length ≤ 12 := by
        intro i hi hij
        by_cases hh : i < j
        · exact hc i hi hh
        · obtain rfl : i = j := by omega
          omega
      by_cases hs : (p.Cells[j]).Set = true
      · by_cases hl : p.LSN = 0
        · right
          exact ⟨false, by simp only [JX, e1, decide_true, if_true, e2, Option.bind_some, h12, decide_false, Bool.false_eq_true, if_false, hs, hl, beq_self_eq_true], fun h => (by cases h), bad fun h => h.2.2 hs hl⟩
        · left
          have e4 : (p.LSN == 0) = false := by simpa using hl
          exact ⟨((j + 1 : Nat) : Int), by simp only [JX, e1, decide_true, if_true, e2, Option.bind_some, h12, decide_false, Bool.false_eq_true, if_false, hs, e4, e3], ⟨j + 1, rfl, by omega, nxt⟩, by omega⟩
      · have hs' : (p.Cells[j]).Set = false := by simpa using hs
        by_cases hd : (p.Cells[j]).Data = []
        · left
          exact ⟨((j + 1 : Nat) : Int), by simp only [JX, e1, decide_true, if_true, e2, Option.bind_some, h12, decide_false, Bool.false_eq_true, if_false, hs', hd, beq_self_eq_true, e3]; rfl, ⟨j + 1, rfl, by omega, nxt⟩, by omega⟩
        · right
          have e4 : ((p.Cells[j]).Data == []) = false := by simpa using hd
          exact ⟨false, by simp only [JX, e1, decide_true, if_true, e2, Option.bind_some, h12, decide_false, Bool.false_eq_true, if_false, hs', e4], fun h => (by cases h), bad fun h => hd (h.2.1 hs')⟩
  · right
    have e1 : ¬ ((j : Nat) : Int) < 16 := by omega
    exact ⟨true, by simp only [JX, e1, decide_false, Bool.false_eq_true, if_false, J4P, Option.map_some], fun _ i h => hc i h (by omega), fun _ => rfl⟩
end Go.Am
end
section
namespace Go.Am
def P32 : Nat := 2197175160
def gb (c : Nat) : Nat := if c % 2 = 1 then c / 2 ^^^ P32 else c / 2
def gN : Nat → Nat → Nat
  | 0, c => c
  | j + 1, c => gN j (gb c)
def sl (b : Nat) : Nat := if b = 1 then P32 else 0
theorem Je4 (c : Nat) : gb c = c / 2 ^^^ sl (c % 2) := by
  unfold gb sl
  split
  · rfl
  · rw [Nat.xor_zero]
theorem Jp7 (x y : Nat) : gb (x ^^^ y) = gb x ^^^ gb y := by
  have e1 : (x ^^^ y) / 2 = x / 2 ^^^ y / 2 := by have := @Nat.xor_div_two_pow x y 1; simpa using this
  have e2 : (x ^^^ y) % 2 = x % 2 ^^^ y % 2 := by have := @Nat.xor_mod_two_pow x y 1; simpa using this
  simp only [Je4, e1, e2]
  have e3 : sl (x % 2 ^^^ y % 2) = sl (x % 2) ^^^ sl (y % 2) := by
    rcases Nat.mod_two_eq_zero_or_one x with h | h <;> rcases Nat.mod_two_eq_zero_or_one y with h' | h' <;> rw [h, h'] <;> decide
  rw [e3]
  ac_rfl
theorem JdR : ∀ (j x y : Nat), gN j (x ^^^ y) = gN j x ^^^ gN j y
  | 0, _, _ => rfl
  | j + 1, x, y => by simp only [gN]; rw [Jp7, JdR j]
theorem Jkz : ∀ (i j x : Nat), gN (i + j) x = gN j (gN i x)
  | 0, j, x => by simp [gN]
  | i + 1, j, x => by rw [Nat.succ_add]; simp only [gN]; exact Jkz i j _
theorem Jio (c : Nat) : gN 4 c = c / 16 ^^^ (sl (c / 8 % 2) ^^^ gN 1 (sl (c / 4 % 2)) ^^^ gN 2 (sl (c / 2 % 2)) ^^^ gN 3 (sl (c % 2))) := by
  have s1 : gN 4 c = gN 3 (c / 2) ^^^ gN 3 (sl (c % 2)) := by
    rw [← JdR, ← Je4]; rfl
  have s2 : gN 3 (c / 2) = gN 2 (c / 4) ^^^ gN 2 (sl (c / 2 % 2)) := by
    rw [← JdR, show c / 4 = c / 2 / 2 by omega, ← Je4]; rfl
  have s3 : gN 2 (c / 4) = gN 1 (c / 8) ^^^ gN 1 (sl (c / 4 % 2)) := by
    rw [← JdR, show c / 8 = c / 4 / 2 by omega, ← Je4]; rfl
  have s4 : gN 1 (c / 8) = c / 16 ^^^ sl (c / 8 % 2) := by
    rw [show c / 16 = c / 8 / 2 by omega, ← Je4]; rfl
  rw [s1, s2, s3, s4]
  ac_rfl
theorem Jle (c : Nat) : gN 4 c = c / 16 ^^^ gN 4 (c % 16) := by
  rw [Jio c, Jio (c % 16)]
  have a0 : c % 16 / 16 = 0 := by omega
  have a1 : c % 16 / 8 % 2 = c / 8 % 2 := by omega
  have a2 : c % 16 / 4 % 2 = c / 4 % 2 := by omega
  have a3 : c % 16 / 2 % 2 = c / 2 % 2 := by omega
  have a4 : c % 16 % 2 = c % 2 := by omega
  rw [a0, a1, a2, a3, a4, Nat.zero_xor]
theorem JjO : P32 < 2 ^ 32 := by decide
theorem Jmu {c : Nat} (h : c < 2 ^ 32) : gb c < 2 ^ 32 := by
  unfold gb
  split
  · exact Nat.xor_lt_two_pow (by omega) JjO
  · omega
theorem JdQ : ∀ {j c : Nat}, c < 2 ^ 32 → gN j c < 2 ^ 32
  | 0, _, h => h
  | j + 1, _, h => JdQ (j := j) (Jmu h)
theorem J9x (n : Nat) (h : n < 2 ^ 32) : IntKind.wrap .u32 (n : Int) = (n : Int) := by
  rw [show IntKind.wrap .u32 (n : Int) = (n : Int) % 4294967296 from rfl]; omega
theorem JeV {n : Nat} (h : n < 2 ^ 32) : (BitVec.ofInt 32 (n : Int)).toNat = n := by
  rw [BitVec.toNat_ofInt]; omega
theorem Jdg {x y : Nat} (hx : x < 2 ^ 32) (hy : y < 2 ^ 32) : J4V .u32 (x : Int) (y : Int) = ((x ^^^ y : Nat) : Int) := by
  show IntKind.wrap .u32 (((BitVec.ofInt 32 (x : Int) ^^^ BitVec.ofInt 32 (y : Int)).toNat : Nat) : Int) = _
  rw [BitVec.toNat_xor, JeV hx, JeV hy, J9x _ (Nat.xor_lt_two_pow hx hy)]
theorem Jhx {x : Nat} (hx : x < 2 ^ 32) (k : Nat) (hk : k ≤ 20) : J3B .u32 (x : Int) ((2 ^ k - 1 : Nat) : Int) = ((x % 2 ^ k : Nat) : Int) := by
  show IntKind.wrap .u32 (((BitVec.ofInt 32 (x : Int) &&& BitVec.ofInt 32 ((2 ^ k - 1 : Nat) : Int)).toNat : Nat) : Int) = _
  have h2 : 2 ^ k - 1 < 2 ^ 32 := by
    have : (2 : Nat) ^ k ≤ 2 ^ 20 := Nat.pow_le_pow_right (by omega) hk
    omega
  rw [BitVec.toNat_and, JeV hx, JeV h2, Nat.and_two_pow_sub_one_eq_mod, J9x _ (Nat.lt_of_le_of_lt (Nat.mod_le _ _) hx)]
theorem JpT {x : Nat} (hx : x < 2 ^ 32) : J3B .u32 (x : Int) 1 = ((x % 2 : Nat) : Int) := Jhx hx 1 (by omega)
theorem JoM {x : Nat} (hx : x < 2 ^ 32) : J3B .u32 (x : Int) 15 = ((x % 16 : Nat) : Int) := Jhx hx 4 (by omega)
theorem Jq4 (x : Nat) : J9i .u32 (x : Int) 1 = some ((x / 2 : Nat) : Int) := by
  show some ((x : Int).fdiv 2) = _
  rw [Int.fdiv_eq_ediv_of_nonneg _ (by omega)]; simp
theorem Jq8 (x : Nat) : J9i .u32 (x : Int) 4 = some ((x / 16 : Nat) : Int) := by
  show some ((x : Int).fdiv 16) = _
  rw [Int.fdiv_eq_ediv_of_nonneg _ (by omega)]; simp
def JgN : List UInt8 → Nat → Nat
  | [], c => c
  | b :: r, c => JgN r (gN 8 (c ^^^ b.toNat))
theorem JbW (b : UInt8) : b.toNat < 2 ^ 32 := by have := UInt8.toNat_lt b; omega
theorem Jil : ∀ {l : List UInt8} {c : Nat}, c < 2 ^ 32 → JgN l c < 2 ^ 32
  | [], _, h => h
  | b :: r, _, h => Jil (l := r) (JdQ (Nat.xor_lt_two_pow h (JbW b)))
def crc (l : List UInt8) : Nat := JgN l 4294967295 ^^^ 4294967295
theorem Jon (l : List UInt8) : crc l < 2 ^ 32 := Nat.xor_lt_two_pow (Jil (by decide)) (by decide)
theorem Jmc {x : Nat} (hx : x < 2 ^ 32) : JkQ .u32 (x : Int) = ((x ^^^ 4294967295 : Nat) : Int) := by
  show IntKind.wrap .u32 (((BitVec.ofInt 32 4294967295 ^^^ BitVec.ofInt 32 (x : Int)).toNat : Nat) : Int) = _
  rw [BitVec.toNat_xor, JeV hx, show (4294967295 : Int) = ((4294967295 : Nat) : Int) by rfl, JeV (by decide), Nat.xor_comm, J9x _ (Nat.xor_lt_two_pow hx (by decide))]
theorem Jdy : ∃ v, J1D = some v ∧ ∀ (i : Nat) (h : i < 16), v[i] = ((gN 4 i : Nat) : Int) := by
  have inner : ∀ (k : Nat) (b0 b1 : Vector Int 16), k < 16 → ∀ (m j c : Nat), c < 2 ^ 32 → j + m = 4 → J03 (fun s : Int × Int => J0b k k b0 b1 s.1 s.2) ((c : Int), (j : Int)) = some (.inl (((k + 1 : Nat) : Int), JeY b1 k ((gN m c : Nat) : Int))) := by
    intro k b0 b1 hk m
    induction m with
    | zero =>
      intro j c hc hj
      obtain rfl : j = 4 := by omega
      refine J2v ?_
      have e1 : ¬ (((4 : Nat) : Nat) : Int) < 4 := by omega
      simp only [J0b, e1, decide_false, Bool.false_eq_true, if_false, J2q, J2m, J9E hk, J6d _ k hk, Option.bind_some, Option.map_some, J3P (show k < 1000000 by omega), gN]
    | succ m ih =>
      intro j c hc hj
      have e1 : ((j : Nat) : Int) < 4 := by omega
      refine (J3C (s' := (((gb c : Nat) : Int), ((j + 1 : Nat) : Int))) ?_).trans (ih (j + 1) (gb c) (Jmu hc) (by omega))
      have e2 := JpT hc
      simp only [J0b, e1, decide_true, if_true, e2, Jq4, Option.bind_some, J3P (show j < 1000000 by omega)]
      unfold gb
      by_cases hb : c % 2 = 1
      · simp only [hb, if_true, Int.natCast_one, beq_self_eq_true]
        rw [show (2197175160 : Int) = ((P32 : Nat) : Int) by rfl, Jdg (by omega) JjO]
      · have e3 : (((c % 2 : Nat) : Int) == 1) = false := by simp; omega
        simp only [hb, if_false, e3, Bool.false_eq_true]
  refine J32 (f := fun s : Int × Vector Int 16 => J0x (Vector.replicate 16 0) s.1 s.2) (fun s => ∃ j : Nat, s.1 = j ∧ j ≤ 16 ∧ ∀ (i : Nat) (h : i < 16), i < j → s.2[i] = ((gN 4 i : Nat) : Int)) (fun s => (16 - s.1).toNat) (fun v => ∀ (i : Nat) (h : i < 16), v[i] = ((gN 4 i : Nat) : Int)) (fun s ⟨j, hj, h4, hv⟩ => ?_) (0, Vector.replicate 16 0) ⟨0, rfl, by omega, fun i h hh => by omega⟩
  obtain ⟨j', b1⟩ := s
  simp only at hj hv
  subst hj
  by_cases hlt : j < 16
  · left
    have e1 : ((j : Nat) : Int) < 16 := by omega
    have ho := inner j (Vector.replicate 16 0) b1 hlt 4 0 j (by omega) (by omega)
    refine ⟨⟨((j + 1 : Nat) : Int), JeY b1 j ((gN 4 j : Nat) : Int)⟩, by simp only [J0x, e1, decide_true, if_true, J9x j (by omega)]; exact ho, ⟨j + 1, rfl, by omega, fun i h hh => ?_⟩, by simp; omega⟩
    simp only [JeY, Int.toNat_natCast, Vector.getElem_setIfInBounds]
    by_cases hij : j = i
    · subst hij; simp
    · rw [if_neg hij]; exact hv i h (by omega)
  · right
    obtain rfl : j = 16 := by omega
    have e1 : ¬ (((16 : Nat) : Nat) : Int) < 16 := by omega
    exact ⟨b1, by simp only [J0x, e1, decide_false, Bool.false_eq_true, if_false, J2j, Option.map_some], fun i h => hv i h h⟩
theorem Jlw (l : List UInt8) (hl : l.length ≤ 100000) : J21 l = some ((crc l : Nat) : Int) := by
  obtain ⟨v, hv, ht⟩ := Jdy
  have outer : ∀ (m j c : Nat), c < 2 ^ 32 → j + m = l.length → J03 (fun s : Int × Int => J1J l (l.length : Int) v s.1 s.2) ((c : Int), (j : Int)) = some (((JgN (l.drop j) c ^^^ 4294967295 : Nat) : Int)) := by
    intro m
    induction m with
    | zero =>
      intro j c hc hj
      obtain rfl : j = l.length := by omega
      refine J2v ?_
      have e1 : ¬ ((l.length : Nat) : Int) < ((l.length : Nat) : Int) := by omega
      simp only [J1J, e1, decide_false, Bool.false_eq_true, if_false, J5n, Option.map_some, Jmc hc, List.drop_length, JgN]
    | succ m ih =>
      intro j c hc hj
      have hlt : j < l.length := by omega
      have e1 : ((j : Nat) : Int) < ((l.length : Nat) : Int) := by omega
      have hx := Nat.xor_lt_two_pow hc (JbW l[j])
      have step : ∀ x : Nat, x < 2 ^ 32 → inb 16 (J3B .u32 (x : Int) 15) = some () ∧ J7G v (J3B .u32 (x : Int) 15) = some ((gN 4 (x % 16) : Nat) : Int) ∧ J4V .u32 ((x / 16 : Nat) : Int) ((gN 4 (x % 16) : Nat) : Int) = ((gN 4 x : Nat) : Int) := by
        intro x hx
        have h16 : x % 16 < 16 := by omega
        rw [JoM hx]
        refine ⟨J9E h16, by rw [J6d _ _ h16, ht _ h16], ?_⟩
        rw [Jdg (by omega) (JdQ (by omega)), ← Jle]
      refine (J3C (s' := (((gN 8 (c ^^^ (l[j]).toNat) : Nat) : Int), ((j + 1 : Nat) : Int))) ?_).trans ((ih (j + 1) _ (JdQ hx) (by omega)).trans ?_)
      · obtain ⟨a1, a2, a3⟩ := step _ hx
        obtain ⟨b1, b2, b3⟩ := step (gN 4 (c ^^^ (l[j]).toNat)) (JdQ hx)
        simp only [J1J, e1, decide_true, if_true, JiJ hlt, Option.bind_some, J9x _ (JbW l[j]), Jdg hc (JbW l[j]), Jq8, a1, a2, a3, b1, b2, b3, J3P (show j < 1000000 by omega)]
        rw [← Jkz 4 4]
      · rw [List.drop_eq_getElem_cons hlt]
        rfl
  unfold J21
  rw [hv]
  exact outer l.length 0 4294967295 (by decide) (by omega)
end Go.Am
end
section
namespace Go.Am
end Go.Am
end
section
namespace Go.Am
def blk : List UInt8 := List.replicate 256 0
end Go.Am
end
section
namespace Go.Am
end Go.Am
end
section
namespace Go.Am
def Jah (c : Je) : List UInt8 := J1G (if c.Set then (c.Data.length : Int) else 255) 1 ++ c.Data ++ List.replicate (12 - c.Data.length) 0
theorem Jkt {c : Je} (h : c.Data.length ≤ 12) : (Jah c).length = 13 := by
  simp only [Jah, List.length_append, J3G, List.length_replicate]; omega
theorem Jkf (b : T_page_builder) (c : Je) (hc : c.Data.length ≤ 12) (hb : b.s_.length ≤ 300) : J1Z b c = some ⟨b.s_ ++ Jah c⟩ := by
  have go : ∀ x : Int, J1A x b c = some ⟨b.s_ ++ (J1G x 1 ++ c.Data ++ List.replicate (12 - c.Data.length) 0)⟩ := by
    intro x
    have e0 : IntKind.wrap .i64 (12 - ((c.Data.length : Nat) : Int)) = ((12 - c.Data.length : Nat) : Int) := by rw [J4w (by omega) (by omega)]; omega
    have e1 := Jb2 b.s_ x (k := 1) (by omega) (by omega) (by omega)
    have e2 : J9h (b.s_ ++ J1G x 1) c.Data = some (b.s_ ++ J1G x 1 ++ c.Data) := Jgv (by rw [List.length_append, J3G]; omega) (by omega)
    have e3 := JgX (n := ((12 - c.Data.length : Nat) : Int)) (by omega) (by omega)
    rw [Int.toNat_natCast] at e3
    have e4 : J9h (b.s_ ++ J1G x 1 ++ c.Data) (List.replicate (12 - c.Data.length) 0) = some (b.s_ ++ J1G x 1 ++ c.Data ++ List.replicate (12 - c.Data.length) 0) := Jgv (by simp only [List.length_append, J3G]; omega) (by simp; omega)
    unfold J1A
    rw [show (1 : Int) = ((1 : Nat) : Int) by rfl, e1, Option.bind_some, e2, Option.bind_some, e0, e3, Option.bind_some, e4, Option.bind_some]
    simp only [List.append_assoc]
  unfold J1Z Jah
  cases hs : c.Set with
  | true => simp only [if_true]; exact go _
  | false => simp only [Bool.false_eq_true, if_false]; exact go _
end Go.Am
end
section
namespace Go.Am
def J7o (l : List Je) : List UInt8 := (l.map Jah).flatten
theorem Jaf : ∀ {l : List Je}, (∀ c ∈ l, c.Data.length ≤ 12) → (J7o l).length = 13 * l.length
  | [], _ => rfl
  | c :: l, h => by
    have h1 := Jkt (h c (by simp))
    have h2 := Jaf (l := l) fun d hd => h d (by simp [hd])
    simp only [J7o, List.map_cons, List.flatten_cons, List.length_append, List.length_cons] at h2 ⊢
    omega
theorem Jif (l : List Je) (c : Je) : J7o (l ++ [c]) = J7o l ++ Jah c := by simp [J7o]
def J5a (p : J9) : List UInt8 := J1G p.LSN 8 ++ J1G p.ID 4 ++ J7o p.Cells.toList ++ List.replicate 24 0
theorem JhV {p : J9} (hp : J8L p) : ∃ c, J21 (J5a p) = some c ∧ J26 p = some (J5a p ++ J1G (IntKind.wrap .i64 c) 4 ++ J1G p.LSN 8, 0) := by
  have hd : ∀ c ∈ p.Cells.toList, c.Data.length ≤ 12 := by
    intro c hc
    obtain ⟨i, hi, rfl⟩ := List.getElem_of_mem hc
    have h16 : i < 16 := by simpa using hi
    have := (hp.cells i h16).1
    simpa using this
  have loop := J32 (f := fun s : Int × T_page_builder => J2t p.Cells p s.1 s.2) (fun s => ∃ j : Nat, s.1 = j ∧ j ≤ 16 ∧ s.2.s_ = J1G p.LSN 8 ++ J1G p.ID 4 ++ J7o (p.Cells.toList.take j)) (fun s => (16 - s.1).toNat)
    (fun r => ∃ c, J21 (J5a p) = some c ∧ r = (J5a p ++ J1G (IntKind.wrap .i64 c) 4 ++ J1G p.LSN 8, 0)) (fun s ⟨j, hj, h4, ht⟩ => by
    obtain ⟨j', b⟩ := s
    simp only at hj ht
    subst hj
    have hl : (J7o (p.Cells.toList.take j)).length = 13 * j := by
      rw [Jaf fun c hc => hd c (List.mem_of_mem_take hc)]
      simp; omega
    have hbl : b.s_.length = 12 + 13 * j := by rw [ht]; simp only [List.length_append, J3G, hl]
    by_cases hlt : j < 16
    · left
      have e1 : ((j : Nat) : Int) < 16 := by omega
      have e2 := Jkf b p.Cells[j] (hp.cells j hlt).1 (by omega)
      have e3 : p.Cells.toList.take (j + 1) = p.Cells.toList.take j ++ [p.Cells[j]] := by
        rw [List.take_add_one, List.getElem?_eq_getElem (by simpa using hlt)]
        simp
      exact ⟨⟨((j + 1 : Nat) : Int), ⟨b.s_ ++ Jah p.Cells[j]⟩⟩, by simp only [J2t, e1, decide_true, if_true, J6d _ j hlt, Option.bind_some, e2, J3P (show j < 1000000 by omega)], ⟨j + 1, rfl, by omega, by show b.s_ ++ _ = _; rw [ht, e3, Jif]; simp only [List.append_assoc]⟩, by simp; omega⟩
    · right
      obtain rfl : j = 16 := by omega
      have e1 : ¬ (((16 : Nat) : Nat) : Int) < 16 := by omega
      have e5 : p.Cells.toList.take 16 = p.Cells.toList := List.take_of_length_le (by simp)
      rw [e5] at ht
      have a0 : IntKind.wrap .i64 (244 - ((b.s_.length : Nat) : Int)) = 24 := by rw [hbl, J4w (by omega) (by omega)]; omega
      have a1 : J2V [0] 24 = some (List.replicate 24 0) := JgX (n := 24) (by omega) (by omega)
      have a6 : b.s_ ++ List.replicate 24 0 = J5a p := by rw [ht]; rfl
      have a7 : (J5a p).length = 244 := by rw [← a6]; simp [hbl]
      have a2 : J9h b.s_ (List.replicate 24 0) = some (J5a p) := by rw [← a6]; exact Jgv (by omega) (by simp)
      obtain ⟨r, a3⟩ := Joc (J5a p) (by omega)
      have a4 := Jb2 (J5a p) (IntKind.wrap .i64 r) (k := 4) (by omega) (by omega) (by omega)
      have a5 := Jb2 (J5a p ++ J1G (IntKind.wrap .i64 r) 4) p.LSN (k := 8) (by omega) (by omega) (by simp [a7, J3G])
      refine ⟨_, ?_, r, a3, rfl⟩
      simp only [J2t, e1, decide_false, Bool.false_eq_true, if_false, J5T, a0, a1, a2, a3, Option.bind_some]
      rw [show (4 : Int) = ((4 : Nat) : Int) by rfl, a4, Option.bind_some, show (8 : Int) = ((8 : Nat) : Int) by rfl, a5]
      rfl) (0, ⟨J1G p.LSN 8 ++ J1G p.ID 4⟩) ⟨0, rfl, by omega, by simp [J7o]⟩
  obtain ⟨r, hr, c, hc, rfl⟩ := loop
  refine ⟨c, hc, ?_⟩
  obtain ⟨d, e2, _, hd2⟩ := JkE p
  have hd3 := hd2 hp.cells
  subst hd3
  have e1 : J18 p = some true := by
    have i0 := hp.id0; have i1 := hp.id1; have l0 := hp.lsn0; have l1 := hp.lsn1
    simp [J18, J38, i0, i1, l0, l1]
  have a1 := Jb2 [] p.LSN (k := 8) (by omega) (by omega) (by simp)
  have a2 := Jb2 ([] ++ J1G p.LSN 8) p.ID (k := 4) (by omega) (by omega) (by simp [J3G])
  unfold J26
  simp only [e1, e2, Option.bind_some, if_true]
  rw [show (8 : Int) = ((8 : Nat) : Int) by rfl, a1, Option.bind_some, show (4 : Int) = ((4 : Nat) : Int) by rfl, a2, Option.bind_some, List.nil_append]
  exact hr
end Go.Am
end
section
namespace Go.Am
theorem Jll {p : J9} (hp : J8L p) : (J5a p).length = 244 := by
  have hd : ∀ c ∈ p.Cells.toList, c.Data.length ≤ 12 := by
    intro c hc
    obtain ⟨i, hi, rfl⟩ := List.getElem_of_mem hc
    have h16 : i < 16 := by simpa using hi
    have := (hp.cells i h16).1
    simpa using this
  unfold J5a
  simp only [List.length_append, J3G, List.length_replicate]
  rw [Jaf hd]
  simp
end Go.Am
end
section
namespace Go.Am
end Go.Am
end
section
namespace Go.Am
end Go.Am
end
section
namespace Go.Am
def JbN (p : J9) : Prop := ∀ (i : Nat) (h : i < 16), J3L p.LSN p.Cells[i]
theorem Jfc (p : J9) : ∃ b, J2u p = some b ∧ (b = true ↔ JbN p) := by
  refine J32 (f := fun s : Int => JX p.Cells p s) (fun s => ∃ j : Nat, s = j ∧ j ≤ 16 ∧ ∀ (i : Nat) (h : i < 16), i < j → J3L p.LSN p.Cells[i]) (fun s => (16 - s).toNat)
    (fun b => b = true ↔ JbN p) (fun s ⟨j, hj, h4, hc⟩ => ?_) 0 ⟨0, rfl, by omega, fun i h hh => by omega⟩
  subst hj
  by_cases hlt : j < 16
  · have e1 : ((j : Nat) : Int) < 16 := by omega
    have e2 := J6d p.Cells j hlt
    have e3 := J3P (show j < 1000000 by omega)
    have bad : ¬ J3L p.LSN p.Cells[j] → (false = true ↔ JbN p) := fun h1 => ⟨fun h => (by cases h), fun h2 => (h1 (h2 j hlt)).elim⟩
    have nxt : J3L p.LSN p.Cells[j] → ∀ (i : Nat) (h : i < 16), i < j + 1 → J3L p.LSN p.Cells[i] := by
      intro hok i hi hij
      by_cases hh : i < j
      · exact hc i hi hh
      · obtain rfl : i = j := by omega
        exact hok
    by_cases h12 : (((p.Cells[j]).Data.length : Nat) : Int) > 12
    · right
      exact ⟨false, by simp only [JX, e1, decide_true, if_true, e2, Option.bind_some, h12], bad fun h => by have := h.1; omega⟩
    · by_cases hs : (p.Cells[j]).Set = true
      · by_cases hl : p.LSN = 0
        · right
          exact ⟨false, by simp only [JX, e1, decide_true, if_true, e2, Option.bind_some, h12, decide_false, Bool.false_eq_true, if_false, hs, hl, beq_self_eq_true], bad fun h => h.2.2 hs hl⟩
        · left
          have e4 : (p.LSN == 0) = false := by simpa using hl
          exact ⟨((j + 1 : Nat) : Int), by simp only [JX, e1, decide_true, if_true, e2, Option.bind_some, h12, decide_false, Bool.false_eq_true, if_false, hs, e4, e3], ⟨j + 1, rfl, by omega, nxt ⟨by omega, (fun h => by rw [hs] at h; cases h), fun _ => hl⟩⟩, by omega⟩
      · have hs' : (p.Cells[j]).Set = false := by simpa using hs
        by_cases hd : (p.Cells[j]).Data = []
        · left
          exact ⟨((j + 1 : Nat) : Int), by simp only [JX, e1, decide_true, if_true, e2, Option.bind_some, h12, decide_false, Bool.false_eq_true, if_false, hs', hd, beq_self_eq_true, e3]; rfl, ⟨j + 1, rfl, by omega, nxt ⟨by omega, fun _ => hd, fun h => (hs h).elim⟩⟩, by omega⟩
        · right
          have e4 : ((p.Cells[j]).Data == []) = false := by simpa using hd
          exact ⟨false, by simp only [JX, e1, decide_true, if_true, e2, Option.bind_some, h12, decide_false, Bool.false_eq_true, if_false, hs', e4], bad fun h => hd (h.2.1 hs')⟩
  · right
    have e1 : ¬ ((j : Nat) : Int) < 16 := by omega
    exact ⟨true, by simp only [JX, e1, decide_false, Bool.false_eq_true, if_false, J4P, Option.map_some], fun _ i h => hc i h (by omega), fun _ => rfl⟩
end Go.Am
end
