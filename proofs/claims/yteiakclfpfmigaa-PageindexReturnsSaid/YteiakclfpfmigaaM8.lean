/-
  Parts of a proof: YteiakclfpfmigaaKS2, YteiakclfpfmigaaKS3, YteiakclfpfmigaaKSz, YteiakclfpfmigaaPlain, YteiakclfpfmigaaPlain2, YteiakclfpfmigaaCrc, YteiakclfpfmigaaPlain3, YteiakclfpfmigaaPlain4, YteiakclfpfmigaaBack, YteiakclfpfmigaaBack2, YteiakclfpfmigaaBack3, YteiakclfpfmigaaBack4, YteiakclfpfmigaaBack5, YteiakclfpfmigaaInj, YteiakclfpfmigaaInj2.
-/
import Derived.Test.YteiakclfpfmigaaM7
set_option linter.unusedSimpArgs false
set_option linter.unusedVariables false
section
namespace Go.Am
set_option maxRecDepth 8000
set_option maxHeartbeats 4000000
set_option linter.unusedSimpArgs false
set_option linter.unusedVariables false
noncomputable section
variable (p : FuncId → Option (List AV → List Blk → Option Res))
def JO  (r : Int) : Option Res := some (.p (.i .i64 r), [])
def J37 (x0 : List T_api_Row) (x7 : Int) (o : (Int) ⊕ (Int)) : Option Res := match o with
  | .inl s => rk (J3 p) JL 0 [.bl 0, .sq (.keep [] J06)] (X (J3 p) (.lp 0 [0, 1, 7, 8] JM) ⟨[(0, .p (.sl 3 (List.map J4 x0))), (1, .fn JN [] []), (7, .p (.i .i64 x7)), (8, .p (.i .i64 s))], []⟩)
  | .inr o => JO o
def J09  : Option (Int) :=
  some (-1)
theorem J34  {o : Int} (h : J09 = some o) :
    rk (J3 p) JL 0 [] (X (J3 p) J06 ⟨[], []⟩) = JO o := by
  unfold J09 at h
  obtain rfl := sj h
  try simp only [↓Da, Ua, J06, J3A, ↓reduceIte, Nat.reduceEqDiff, Nat.reduceAdd, Nat.reduceLT, Nat.reduceMul]
  rfl
def JD (x0 : List T_api_Row) (x7 : Int) (x8 : Int) : Option (((Int) ⊕ (Int))) :=
  if (decide (x8 < x7)) then
    Option.bind (idx x0 x8) fun y2 =>
    Option.bind (J1E y2) fun r5 =>
    if r5 then
      some (.inr x8)
    else
      some (.inl (IntKind.wrap .i64 (x8 + 1)))
  else
    Option.map (fun o => .inr o) (J09)
theorem J1n {x0 : List T_api_Row} {x7 : Int} {x8 : Int} {o : ((Int) ⊕ (Int))} (h : JD x0 x7 x8 = some o) :
    rk (J3 p) JL 0 [.lo 0 [0, 1, 7, 8] JM, .bl 0, .sq (.keep [] J06)] (X (J3 p) JM ⟨[(0, .p (.sl 3 (List.map J4 x0))), (1, .fn JN [] []), (7, .p (.i .i64 x7)), (8, .p (.i .i64 x8))], []⟩) = (J37 p x0 x7) o := by
  unfold JD at h
  rcases Jd h with ⟨h1, h⟩ | ⟨h1, h⟩
  · obtain ⟨y2, h3, h⟩ := bi h
    have f4 := J6o (r := J4) h3
    try simp only [Nf] at f4
    obtain ⟨r5, h6, h⟩ := bi h
    have f7 := J9x p h6
    try simp only [Nf] at f7
    try simp only [↓Da, Ua, JM, Je, *, ↓reduceIte, Nat.reduceEqDiff, Nat.reduceAdd, Nat.reduceLT, Nat.reduceMul]
    rcases Jd h with ⟨h8, h⟩ | ⟨h8, h⟩
    · obtain rfl := sj h
      try simp only [↓Da, Ua, JM, Je, J3A, *, ↓reduceIte, Nat.reduceEqDiff, Nat.reduceAdd, Nat.reduceLT, Nat.reduceMul]
      rfl
    · obtain rfl := sj h
      try simp only [↓Da, Ua, JM, Je, *, ↓reduceIte, Nat.reduceEqDiff, Nat.reduceAdd, Nat.reduceLT, Nat.reduceMul]
      rfl
  · obtain ⟨o', h', rfl⟩ := mi h
    try simp only [↓Da, Ua, JM, Je, *, ↓reduceIte, Nat.reduceEqDiff, Nat.reduceAdd, Nat.reduceLT, Nat.reduceMul]
    have e0 := J34 p h'
    exact e0
def J1l (x0 : List T_api_Row) (x7 : Int) (s : Int) : Option (Int) :=
  J1u (fun s => JD x0 x7 s) s
theorem J2T {x0 : List T_api_Row} {x7 : Int} {s : Int} {o : Int} (h : J1l x0 x7 s = some o) :
    rk (J3 p) JL 0 [.bl 0, .sq (.keep [] J06)] (X (J3 p) (.lp 0 [0, 1, 7, 8] JM) ⟨[(0, .p (.sl 3 (List.map J4 x0))), (1, .fn JN [] []), (7, .p (.i .i64 x7)), (8, .p (.i .i64 s))], []⟩) = JO o := by
  have h0 : J1u (fun s => JD x0 x7 s) s = some o := h
  exact J6p (P := fun (s : Int) (o : Int) => rk (J3 p) JL 0 [.bl 0, .sq (.keep [] J06)] (X (J3 p) (.lp 0 [0, 1, 7, 8] JM) ⟨[(0, .p (.sl 3 (List.map J4 x0))), (1, .fn JN [] []), (7, .p (.i .i64 x7)), (8, .p (.i .i64 s))], []⟩) = JO o) (fun s r hs => by rw [J6e]; exact J1n p hs) (fun s s1 r hs ih => by rw [J6e]; exact (J1n p hs).trans ih) h0
def JW (x0 : List T_api_Row) : Option (Int) :=
  J1l x0 ((List.length x0 : Nat) : Int) 0
theorem J2S {x0 : List T_api_Row} {o : Int} (h : JW x0 = some o) :
    rk (J3 p) JL 0 [] (X (J3 p) J0N ⟨[(0, .p (.sl 3 (List.map J4 x0))), (1, .fn JN [] [])], []⟩) = JO o := by
  unfold JW at h
  try simp only [↓Da, Ua, J0N, Je, ↓reduceIte, Nat.reduceEqDiff, Nat.reduceAdd, Nat.reduceLT, Nat.reduceMul]
  have e0 := J2T p h
  exact e0
theorem J3k {x0 : List T_api_Row} {o : Int} (h : JW x0 = some o) : AF (J3 p) J0q [.p (.sl 3 (List.map J4 x0)), .fn JN [] []] [] = JO o :=
  (J1e (J3 p) (J5Z p) rfl).trans (J2S p h)
def J1h  (r : Bool) : Option Res := some (.p (.b r), [])
def JR (x0 : List T_api_Row) : Option (Bool) :=
  Option.bind (JW x0) fun r1 =>
  some (decide (r1 ≥ 0))
theorem J2E {x0 : List T_api_Row} {o : Bool} (h : JR x0 = some o) :
    rk (J3 p) J0f 0 [] (X (J3 p) J0y ⟨[(0, .p (.sl 3 (List.map J4 x0))), (1, .fn JN [] [])], []⟩) = J1h o := by
  unfold JR at h
  obtain ⟨r1, h2, h⟩ := bi h
  have f3 : ∀ ws new s, (Jr (AF (J3 p)) J0q ([.p (.sl 3 (List.map J4 x0)), .fn JN [] []], ws) 0 new).run s = some ⟨.p (.i .i64 r1), ws⟩ := fun ws new s => (J0v (args' := [.p (.sl 3 (List.map J4 x0)), .fn JN [] []]) (bs := []) (css := []) (css' := []) rfl rfl rfl rfl (J3k p h2) rfl rfl rfl ws new s trivial).trans (by simp)
  try simp only [Nf] at f3
  obtain rfl := sj h
  try simp only [↓Da, Ua, J0y, Je, J5v, *, ↓reduceIte, Nat.reduceEqDiff, Nat.reduceAdd, Nat.reduceLT, Nat.reduceMul]
  rfl
theorem J2Z {x0 : List T_api_Row} {o : Bool} (h : JR x0 = some o) : AF (J3 p) J0g [.p (.sl 3 (List.map J4 x0)), .fn JN [] []] [] = J1h o :=
  (J1e (J3 p) (J5u p) rfl).trans (J2E p h)
def J7z  (r : Bool) : Option Res := some (.p (.b r), [])
def J11 (x0 : T_api_Index) : Option (Bool) :=
  if (decide (((List.length x0.Rows : Nat) : Int) ≥ 1)) then
    if (decide (((List.length x0.Rows : Nat) : Int) ≤ 64)) then
      Option.bind (JR x0.Rows) fun r3 =>
      some (!r3)
    else
      some false
  else
    some false
theorem J90 {x0 : T_api_Index} {o : Bool} (h : J11 x0 = some o) :
    rk (J3 p) J2O 0 [] (X (J3 p) J1N ⟨[(0, .data (Ja x0))], []⟩) = J7z o := by
  unfold J11 at h
  rcases Jd h with ⟨h1, h⟩ | ⟨h1, h⟩
  · try simp only [↓Da, Ua, J1N, J1, Je, *, ↓reduceIte, Nat.reduceEqDiff, Nat.reduceAdd, Nat.reduceLT, Nat.reduceMul]
    rcases Jd h with ⟨h2, h⟩ | ⟨h2, h⟩
    · obtain ⟨r3, h4, h⟩ := bi h
      have f5 : ∀ ws new s, (Jr (AF (J3 p)) J0g ([.p (.sl 3 (List.map J4 x0.Rows)), .fn JN [] []], ws) 0 new).run s = some ⟨.p (.b r3), ws⟩ := fun ws new s => (J0v (args' := [.p (.sl 3 (List.map J4 x0.Rows)), .fn JN [] []]) (bs := []) (css := []) (css' := []) rfl rfl rfl rfl (J2Z p h4) rfl rfl rfl ws new s trivial).trans (by simp)
      try simp only [Nf, J1] at f5
      obtain rfl := sj h
      try simp only [↓Da, Ua, J1N, J1, Je, J5V, *, ↓reduceIte, Nat.reduceEqDiff, Nat.reduceAdd, Nat.reduceLT, Nat.reduceMul]
      rfl
    · obtain rfl := sj h
      try simp only [↓Da, Ua, J1N, J1, Je, J5V, *, ↓reduceIte, Nat.reduceEqDiff, Nat.reduceAdd, Nat.reduceLT, Nat.reduceMul]
      rfl
  · obtain rfl := sj h
    try simp only [↓Da, Ua, J1N, J1, Je, J5V, *, ↓reduceIte, Nat.reduceEqDiff, Nat.reduceAdd, Nat.reduceLT, Nat.reduceMul]
    rfl
theorem JbJ {x0 : T_api_Index} {o : Bool} (h : J11 x0 = some o) : AF (J3 p) J1i [.data (Ja x0)] [] = J7z o :=
  (J1e (J3 p) (JbD p) rfl).trans (J90 p h)
theorem J4E {x0 : T_api_Index} {o : Bool} (h : J11 x0 = some o) : ∀ ws new st, (Jr (AF (J3 p)) J1i ([.data (Ja x0)], ws) 0 new).run st = some ⟨.p (.b o), ws⟩ := J0b rfl (JbJ p h) rfl
def J6n (b0 : List UInt8) (r : Int) : Option Res := some (.p (.i .i64 r), [.box [.p (.s b0)]])
def J0c (x0 : Int) (x1 : Int) (b0 : List UInt8) : Option (Int) :=
  Option.bind (J1M b0 (IntKind.wrap .i64 ((IntKind.wrap .i64 (2 + (IntKind.wrap .i64 (x0 * 24)))) + (IntKind.wrap .i64 (x1 * 8)))) 8) fun r1 =>
  some r1.1
theorem J7L {x0 : Int} {x1 : Int} {b0 : List UInt8} {o : Int} (h : J0c x0 x1 b0 = some o) :
    rk (J3 p) J1Q 1 [] (X (J3 p) J2t ⟨[(0, .p (.i .i64 x0)), (1, .p (.i .i64 x1)), (2, .ptr 0 0)], [.box [.p (.s b0)]]⟩) = (J6n b0) o := by
  unfold J0c at h
  obtain ⟨r1, h2, h⟩ := bi h
  have f3 := Jc4 p h2
  try simp only [Nf] at f3
  obtain rfl := sj h
  try simp only [↓Da, Ua, J2t, J95, *, ↓reduceIte, Nat.reduceEqDiff, Nat.reduceAdd, Nat.reduceLT, Nat.reduceMul]
  rfl
theorem J4P {x0 : Int} {x1 : Int} {b0 : List UInt8} {o : Int} (h : J0c x0 x1 b0 = some o) : AF (J3 p) JS [.p (.i .i64 x0), .p (.i .i64 x1), .ptr 0 0] [.box [.p (.s b0)]] = (J6n b0) o :=
  (J1e (J3 p) (J98 p) rfl).trans (J7L p h)
def J2z  (r : T_api_Index × Int) : Option Res := some (.tup [.data (Ja r.1), .p (.i .i64 r.2)], [])
def J9u (x35 : Int) (b0 : List UInt8) (l1 : List T_api_Row) (w1 : Bool) (w3 : Bool) (o : (Int × (List T_api_Row)) ⊕ (T_api_Index × Int)) : Option Res := match o with
  | .inl s => rk (J3 p) J0G 0 [.bl 1, .sq (.keep [2, 7] J0Q)] (X (J3 p) (.lp 5 [2, 6, 7, 35, 36] J1b) ⟨[(2, .ptr 2 0), (6, .fn JS [] [.ptr 0 0]), (7, .ptr 4 0), (35, .p (.i .i64 x35)), (36, .p (.i .i64 s.1))], [.box [.p (.s b0)], .arr w1 3 (List.map J4 l1), .box [.slr 1 0 (List.length l1)], .arr w3 3 (List.map J4 s.2), .box [.slr 3 0 (List.length s.2)]]⟩)
  | .inr o => J2z o
def J3C (l1 : List T_api_Row) (l3 : List T_api_Row) : Option (T_api_Index × Int) :=
  Option.bind (J11 (⟨l3⟩ : T_api_Index)) fun r1 =>
  if r1 then
    some ((⟨l3⟩ : T_api_Index), 0)
  else
    some ((⟨([] : List T_api_Row)⟩ : T_api_Index), 28)
theorem J9K {l1 : List T_api_Row} {l3 : List T_api_Row} {B0 : List PV} {w1 : Bool} {w3 : Bool} {o : T_api_Index × Int} (h : J3C l1 l3 = some o) :
    rk (J3 p) J0G 0 [] (X (J3 p) J0Q ⟨[(2, .ptr 2 0), (7, .ptr 4 0)], [.box (List.map AV.p B0), .arr w1 3 (List.map J4 l1), .box [.slr 1 0 (List.length l1)], .arr w3 3 (List.map J4 l3), .box [.slr 3 0 (List.length l3)]]⟩) = J2z o := by
  unfold J3C at h
  obtain ⟨r1, h2, h⟩ := bi h
  have f3 := J4E p h2
  try simp only [Nf, J1, Ju] at f3
  try simp only [↓Da, Ua, J0Q, J1, Ju, *, ↓reduceIte, Nat.reduceEqDiff, Nat.reduceAdd, Nat.reduceLT, Nat.reduceMul]
  rcases Jd h with ⟨h4, h⟩ | ⟨h4, h⟩
  · obtain rfl := sj h
    try simp only [↓Da, Ua, J0Q, J1, Ju, J3j, *, ↓reduceIte, Nat.reduceEqDiff, Nat.reduceAdd, Nat.reduceLT, Nat.reduceMul]
    rfl
  · obtain rfl := sj h
    try simp only [↓Da, Ua, J0Q, J1, Ju, J3j, *, ↓reduceIte, Nat.reduceEqDiff, Nat.reduceAdd, Nat.reduceLT, Nat.reduceMul]
    rfl
def J1D (x35 : Int) (b0 : List UInt8) (l1 : List T_api_Row) (x36 : Int) (l3 : List T_api_Row) : Option (((Int × (List T_api_Row)) ⊕ (T_api_Index × Int))) :=
  if (decide (x36 < x35)) then
    Option.bind (J0c x36 0 b0) fun r2 =>
    Option.bind (J0c x36 1 b0) fun r6 =>
    Option.bind (J0c x36 2 b0) fun r10 =>
    Option.bind (JfZ 24 l3 ([(⟨r2, r6, r10⟩ : T_api_Row)] : List T_api_Row)) fun m14 =>
    some (.inl ((IntKind.wrap .i64 (x36 + 1)), m14))
  else
    Option.map (fun o => .inr o) (J3C l1 l3)
theorem J6z {x35 : Int} {b0 : List UInt8} {l1 : List T_api_Row} {x36 : Int} {l3 : List T_api_Row} {w1 : Bool} {w3 : Bool} {o : ((Int × (List T_api_Row)) ⊕ (T_api_Index × Int))} (h : J1D x35 b0 l1 x36 l3 = some o) :
    rk (J3 p) J0G 0 [.lo 5 [2, 6, 7, 35, 36] J1b, .bl 1, .sq (.keep [2, 7] J0Q)] (X (J3 p) J1b ⟨[(2, .ptr 2 0), (6, .fn JS [] [.ptr 0 0]), (7, .ptr 4 0), (35, .p (.i .i64 x35)), (36, .p (.i .i64 x36))], [.box [.p (.s b0)], .arr w1 3 (List.map J4 l1), .box [.slr 1 0 (List.length l1)], .arr w3 3 (List.map J4 l3), .box [.slr 3 0 (List.length l3)]]⟩) = (J9u p x35 b0 l1 w1 w3) o := by
  unfold J1D at h
  rcases Jd h with ⟨h1, h⟩ | ⟨h1, h⟩
  · obtain ⟨r2, h3, h⟩ := bi h
    have f4 : ∀ ws new s, J0a ws s [0] [[.p (.s b0)]] → (Jr (AF (J3 p)) JS ([.p (.i .i64 x36), .p (.i .i64 0), .ptr 0 0], ws) 0 new).run s = some ⟨.p (.i .i64 r2), ws ++ [(0, .box ([.p (.s b0)]))]⟩ := J0v (args' := [.p (.i .i64 x36), .p (.i .i64 0), .ptr 0 0]) (bs := [0]) (css := [[.p (.s b0)]]) (css' := [[.p (.s b0)]]) rfl rfl rfl (by simp [Jx, Ji]) (J4P p h3) rfl rfl (by simp [Jx, Ji])
    try simp only [Nf, J1, Ju] at f4
    have f5 : ∀ ws k new s, J0a ws s [0] [[.p (.s b0)]] → Jb ((Jr (AF (J3 p)) JS ([.p (.i .i64 x36), .p (.i .i64 0), .ptr 0 0], ws) k new).reads s) = [0] ++ ([0] ++ [0]) := J1O (args' := [.p (.i .i64 x36), .p (.i .i64 0), .ptr 0 0]) (bs := [0]) (css := [[.p (.s b0)]]) rfl rfl rfl (by simp [Jx, Ji])
    try simp only [Nf, J1, Ju] at f5
    obtain ⟨r6, h7, h⟩ := bi h
    have f8 : ∀ ws new s, J0a ws s [0] [[.p (.s b0)]] → (Jr (AF (J3 p)) JS ([.p (.i .i64 x36), .p (.i .i64 1), .ptr 0 0], ws) 0 new).run s = some ⟨.p (.i .i64 r6), ws ++ [(0, .box ([.p (.s b0)]))]⟩ := J0v (args' := [.p (.i .i64 x36), .p (.i .i64 1), .ptr 0 0]) (bs := [0]) (css := [[.p (.s b0)]]) (css' := [[.p (.s b0)]]) rfl rfl rfl (by simp [Jx, Ji]) (J4P p h7) rfl rfl (by simp [Jx, Ji])
    try simp only [Nf, J1, Ju] at f8
    have f9 : ∀ ws k new s, J0a ws s [0] [[.p (.s b0)]] → Jb ((Jr (AF (J3 p)) JS ([.p (.i .i64 x36), .p (.i .i64 1), .ptr 0 0], ws) k new).reads s) = [0] ++ ([0] ++ [0]) := J1O (args' := [.p (.i .i64 x36), .p (.i .i64 1), .ptr 0 0]) (bs := [0]) (css := [[.p (.s b0)]]) rfl rfl rfl (by simp [Jx, Ji])
    try simp only [Nf, J1, Ju] at f9
    obtain ⟨r10, h11, h⟩ := bi h
    have f12 : ∀ ws new s, J0a ws s [0] [[.p (.s b0)]] → (Jr (AF (J3 p)) JS ([.p (.i .i64 x36), .p (.i .i64 2), .ptr 0 0], ws) 0 new).run s = some ⟨.p (.i .i64 r10), ws ++ [(0, .box ([.p (.s b0)]))]⟩ := J0v (args' := [.p (.i .i64 x36), .p (.i .i64 2), .ptr 0 0]) (bs := [0]) (css := [[.p (.s b0)]]) (css' := [[.p (.s b0)]]) rfl rfl rfl (by simp [Jx, Ji]) (J4P p h11) rfl rfl (by simp [Jx, Ji])
    try simp only [Nf, J1, Ju] at f12
    have f13 : ∀ ws k new s, J0a ws s [0] [[.p (.s b0)]] → Jb ((Jr (AF (J3 p)) JS ([.p (.i .i64 x36), .p (.i .i64 2), .ptr 0 0], ws) k new).reads s) = [0] ++ ([0] ++ [0]) := J1O (args' := [.p (.i .i64 x36), .p (.i .i64 2), .ptr 0 0]) (bs := [0]) (css := [[.p (.s b0)]]) rfl rfl rfl (by simp [Jx, Ji])
    try simp only [Nf, J1, Ju] at f13
    obtain ⟨m14, h15, h⟩ := bi h
    have f16 : ∀ s : St, s.sto[3]? = some (.arr w3 3 (List.map J4 l3)) → (J0e 3 (.p (.sl 3 (List.map J4 ([(⟨r2, r6, r10⟩ : T_api_Row)] : List T_api_Row))))).run s = some (List.map J4 ([(⟨r2, r6, r10⟩ : T_api_Row)] : List T_api_Row)) → (J5m 3 24 (.slr 3 0 (List.length l3)) (.p (.sl 3 (List.map J4 ([(⟨r2, r6, r10⟩ : T_api_Row)] : List T_api_Row))))).run s = some ⟨.slr 3 0 (List.length m14), [(3, .arr w3 3 (List.map J4 m14))]⟩ := by
      intro s e1 e2; have e3 := JkX h15 e1 e2; try simp only [List.length_cons, List.length_nil, Nat.zero_add] at e3
      exact e3
    try simp only [Nf, J1, Ju] at f16
    obtain rfl := sj h
    try simp only [↓Da, Ua, Ra, J1b, J1, Ju, *, ↓reduceIte, Nat.reduceEqDiff, Nat.reduceAdd, Nat.reduceLT, Nat.reduceMul, Nat.reduceBEq]
    rfl
  · obtain ⟨o', h', rfl⟩ := mi h
    try simp only [↓Da, Ua, Ra, J1b, J1, Ju, *, ↓reduceIte, Nat.reduceEqDiff, Nat.reduceAdd, Nat.reduceLT, Nat.reduceMul, Nat.reduceBEq]
    have e0 := J9K p (B0 := [.s b0]) (w1 := w1) (w3 := w3) h'
    exact e0
def J6u (x35 : Int) (b0 : List UInt8) (l1 : List T_api_Row) (s : Int × (List T_api_Row)) : Option (T_api_Index × Int) :=
  J1u (fun s => J1D x35 b0 l1 s.1 s.2) s
theorem J8V {x35 : Int} {b0 : List UInt8} {l1 : List T_api_Row} {w1 : Bool} {w3 : Bool} {s : Int × (List T_api_Row)} {o : T_api_Index × Int} (h : J6u x35 b0 l1 s = some o) :
    rk (J3 p) J0G 0 [.bl 1, .sq (.keep [2, 7] J0Q)] (X (J3 p) (.lp 5 [2, 6, 7, 35, 36] J1b) ⟨[(2, .ptr 2 0), (6, .fn JS [] [.ptr 0 0]), (7, .ptr 4 0), (35, .p (.i .i64 x35)), (36, .p (.i .i64 s.1))], [.box [.p (.s b0)], .arr w1 3 (List.map J4 l1), .box [.slr 1 0 (List.length l1)], .arr w3 3 (List.map J4 s.2), .box [.slr 3 0 (List.length s.2)]]⟩) = J2z o := by
  have h0 : J1u (fun s => J1D x35 b0 l1 s.1 s.2) s = some o := h
  exact J6p (P := fun (s : Int × (List T_api_Row)) (o : T_api_Index × Int) => rk (J3 p) J0G 0 [.bl 1, .sq (.keep [2, 7] J0Q)] (X (J3 p) (.lp 5 [2, 6, 7, 35, 36] J1b) ⟨[(2, .ptr 2 0), (6, .fn JS [] [.ptr 0 0]), (7, .ptr 4 0), (35, .p (.i .i64 x35)), (36, .p (.i .i64 s.1))], [.box [.p (.s b0)], .arr w1 3 (List.map J4 l1), .box [.slr 1 0 (List.length l1)], .arr w3 3 (List.map J4 s.2), .box [.slr 3 0 (List.length s.2)]]⟩) = J2z o) (fun s r hs => by rw [J6e]; exact J6z p hs) (fun s s1 r hs ih => by rw [J6e]; exact (J6z p hs).trans ih) h0
def J21 (x0 : List UInt8) : Option (T_api_Index × Int) :=
  Option.bind (J1M x0 0 2) fun r1 =>
  if ((r1.2 : Int) != 0) then
    some ((⟨([] : List T_api_Row)⟩ : T_api_Index), 5)
  else
    if (decide (((List.length x0 : Nat) : Int) < (IntKind.wrap .i64 (2 + (IntKind.wrap .i64 (r1.1 * 24)))))) then
      some ((⟨([] : List T_api_Row)⟩ : T_api_Index), 5)
    else
      if (decide (((List.length x0 : Nat) : Int) > (IntKind.wrap .i64 (2 + (IntKind.wrap .i64 (r1.1 * 24)))))) then
        some ((⟨([] : List T_api_Row)⟩ : T_api_Index), 4)
      else
        J6u r1.1 x0 ([] : List T_api_Row) (0, ([] : List T_api_Row))
theorem J8P {x0 : List UInt8} {o : T_api_Index × Int} (h : J21 x0 = some o) :
    rk (J3 p) J0G 0 [] (X (J3 p) J0F ⟨[(0, .p (.s x0))], []⟩) = J2z o := by
  unfold J21 at h
  obtain ⟨r1, h2, h⟩ := bi h
  have f3 := Jc4 p h2
  try simp only [Nf, J1, Ju] at f3
  try simp only [↓Da, Ua, J0F, J1, Ju, *, ↓reduceIte, Nat.reduceEqDiff, Nat.reduceAdd, Nat.reduceLT, Nat.reduceMul]
  rcases Jd h with ⟨h4, h⟩ | ⟨h4, h⟩
  · obtain rfl := sj h
    try simp only [↓Da, Ua, J0F, J1, Ju, J3j, *, ↓reduceIte, Nat.reduceEqDiff, Nat.reduceAdd, Nat.reduceLT, Nat.reduceMul]
    rfl
  · try simp only [↓Da, Ua, J0F, J1, Ju, *, ↓reduceIte, Nat.reduceEqDiff, Nat.reduceAdd, Nat.reduceLT, Nat.reduceMul]
    rcases Jd h with ⟨h5, h⟩ | ⟨h5, h⟩
    · obtain rfl := sj h
      try simp only [↓Da, Ua, J0F, J1, Ju, J3j, *, ↓reduceIte, Nat.reduceEqDiff, Nat.reduceAdd, Nat.reduceLT, Nat.reduceMul]
      rfl
    · try simp only [↓Da, Ua, J0F, J1, Ju, *, ↓reduceIte, Nat.reduceEqDiff, Nat.reduceAdd, Nat.reduceLT, Nat.reduceMul]
      rcases Jd h with ⟨h6, h⟩ | ⟨h6, h⟩
      · obtain rfl := sj h
        try simp only [↓Da, Ua, J0F, J1, Ju, J3j, *, ↓reduceIte, Nat.reduceEqDiff, Nat.reduceAdd, Nat.reduceLT, Nat.reduceMul]
        rfl
      · try simp only [↓Da, Ua, J0F, J1, Ju, *, ↓reduceIte, Nat.reduceEqDiff, Nat.reduceAdd, Nat.reduceLT, Nat.reduceMul]
        have e0 := J8V p (w1 := true) (w3 := true) h
        exact e0
theorem JaK {x0 : List UInt8} {o : T_api_Index × Int} (h : J21 x0 = some o) : AF (J3 p) J2s [.p (.s x0)] [] = J2z o :=
  (J1e (J3 p) (JaI p) rfl).trans (J8P p h)
theorem Jb5 {x0 : List UInt8} {o : T_api_Index × Int} (h : J21 x0 = some o) : ∀ ws new st, (Jr (AF (J3 p)) J2s ([.p (.s x0)], ws) 0 new).run st = some ⟨.tup [.data (Ja o.1), .p (.i .i64 o.2)], ws⟩ := J0b rfl (JaK p h) rfl
def J9k  (r : Bool) : Option Res := some (.p (.b r), [])
def J3R (x0 : Jf) : Option (Bool) :=
  Option.bind (J4U x0.Page) fun r1 =>
  if r1 then
    if (decide (x0.Slot ≥ 0)) then
      if (decide (x0.Slot < 16)) then
        Option.bind (J2u x0.Before) fun r7 =>
        if r7 then
          Option.bind (J2u x0.After) fun r11 =>
          some r11
        else
          some false
      else
        some false
    else
      some false
  else
    some false
theorem JaX {x0 : Jf} {o : Bool} (h : J3R x0 = some o) :
    rk (J3 p) J3T 0 [] (X (J3 p) J0U ⟨[(0, .data (J8 x0))], []⟩) = J9k o := by
  unfold J3R at h
  obtain ⟨r1, h2, h⟩ := bi h
  have f3 := Je9 p h2
  try simp only [Nf] at f3
  try simp only [↓Da, Ua, J0U, Jk, Jh, *, ↓reduceIte, Nat.reduceEqDiff, Nat.reduceAdd, Nat.reduceLT, Nat.reduceMul]
  rcases Jd h with ⟨h4, h⟩ | ⟨h4, h⟩
  · try simp only [↓Da, Ua, J0U, Jk, Jh, *, ↓reduceIte, Nat.reduceEqDiff, Nat.reduceAdd, Nat.reduceLT, Nat.reduceMul]
    rcases Jd h with ⟨h5, h⟩ | ⟨h5, h⟩
    · try simp only [↓Da, Ua, J0U, Jk, Jh, *, ↓reduceIte, Nat.reduceEqDiff, Nat.reduceAdd, Nat.reduceLT, Nat.reduceMul]
      rcases Jd h with ⟨h6, h⟩ | ⟨h6, h⟩
      · obtain ⟨r7, h8, h⟩ := bi h
        have f9 := J7m p h8
        try simp only [Nf] at f9
        try simp only [↓Da, Ua, J0U, Jk, Jh, *, ↓reduceIte, Nat.reduceEqDiff, Nat.reduceAdd, Nat.reduceLT, Nat.reduceMul]
        rcases Jd h with ⟨h10, h⟩ | ⟨h10, h⟩
        · obtain ⟨r11, h12, h⟩ := bi h
          have f13 := J7m p h12
          try simp only [Nf] at f13
          obtain rfl := sj h
          try simp only [↓Da, Ua, J0U, Jk, Jh, J4W, *, ↓reduceIte, Nat.reduceEqDiff, Nat.reduceAdd, Nat.reduceLT, Nat.reduceMul]
          rfl
        · obtain rfl := sj h
          try simp only [↓Da, Ua, J0U, Jk, Jh, J4W, *, ↓reduceIte, Nat.reduceEqDiff, Nat.reduceAdd, Nat.reduceLT, Nat.reduceMul]
          rfl
      · obtain rfl := sj h
        try simp only [↓Da, Ua, J0U, Jk, Jh, J4W, *, ↓reduceIte, Nat.reduceEqDiff, Nat.reduceAdd, Nat.reduceLT, Nat.reduceMul]
        rfl
    · obtain rfl := sj h
      try simp only [↓Da, Ua, J0U, Jk, Jh, J4W, *, ↓reduceIte, Nat.reduceEqDiff, Nat.reduceAdd, Nat.reduceLT, Nat.reduceMul]
      rfl
  · obtain rfl := sj h
    try simp only [↓Da, Ua, J0U, Jk, Jh, J4W, *, ↓reduceIte, Nat.reduceEqDiff, Nat.reduceAdd, Nat.reduceLT, Nat.reduceMul]
    rfl
theorem Je0 {x0 : Jf} {o : Bool} (h : J3R x0 = some o) : AF (J3 p) J0j [.data (J8 x0)] [] = J9k o :=
  (J1e (J3 p) (JdN p) rfl).trans (JaX p h)
theorem J97 {x0 : Jf} {o : Bool} (h : J3R x0 = some o) : ∀ ws new st, (Jr (AF (J3 p)) J0j ([.data (J8 x0)], ws) 0 new).run st = some ⟨.p (.b o), ws⟩ := J0b rfl (Je0 p h) rfl
def J5T (b1 : Int) (b2 : Int) (r : T_api_Row) : Option Res := some (.tup [], [.box (List.map AV.p (J4 r)), .box [.p (.i .i64 b1)], .box [.p (.i .i64 b2)]])
def J28 (b0 : T_api_Row) (b1 : Int) (b2 : Int) : Option (T_api_Row) :=
  some (⟨b0.LSN, b1, b2⟩ : T_api_Row)
theorem J7h {b0 : T_api_Row} {b1 : Int} {b2 : Int} {o : T_api_Row} (h : J28 b0 b1 b2 = some o) :
    rk (J3 p) J1w 3 [] (X (J3 p) J2a ⟨[(0, .ptr 0 0), (1, .ptr 1 0), (2, .ptr 2 0)], [.box (List.map AV.p (J4 b0)), .box [.p (.i .i64 b1)], .box [.p (.i .i64 b2)]]⟩) = (J5T b1 b2) o := by
  unfold J28 at h
  obtain rfl := sj h
  try simp only [↓Da, Ua, Ra, J2a, Je, J8n, ↓reduceIte, Nat.reduceEqDiff, Nat.reduceAdd, Nat.reduceLT, Nat.reduceMul, Nat.reduceBEq]
  rfl
theorem J8q {b0 : T_api_Row} {b1 : Int} {b2 : Int} {o : T_api_Row} (h : J28 b0 b1 b2 = some o) : AF (J3 p) J03 [.ptr 0 0, .ptr 1 0, .ptr 2 0] [.box (List.map AV.p (J4 b0)), .box [.p (.i .i64 b1)], .box [.p (.i .i64 b2)]] = (J5T b1 b2) o :=
  (J1e (J3 p) (J8p p) rfl).trans (J7h p h)
def J2C (b0 : Int) (b1 : Int) (r : T_api_Index) : Option Res := some (.data (Ja r), [.box [.p (.i .i64 b0)], .box [.p (.i .i64 b1)]])
def JV (x0 : T_api_Index) (x1 : Int) (b0 : Int) (b1 : Int) : Option (T_api_Index) :=
  Option.bind (J0K x0.Rows) fun r1 =>
  Option.bind (idx r1 x1) fun y4 =>
  Option.bind (J28 y4 b0 b1) fun r8 =>
  Option.bind (some (List.set r1 (Int.toNat x1) r8)) fun m11 =>
  some (⟨m11⟩ : T_api_Index)
theorem J4m {x0 : T_api_Index} {x1 : Int} {b0 : Int} {b1 : Int} {o : T_api_Index} (h : JV x0 x1 b0 b1 = some o) :
    rk (J3 p) J1Z 2 [] (X (J3 p) J1V ⟨[(0, .data (Ja x0)), (1, .p (.i .i64 x1)), (2, .fn J03 [] [.ptr 0 0, .ptr 1 0])], [.box [.p (.i .i64 b0)], .box [.p (.i .i64 b1)]]⟩) = (J2C b0 b1) o := by
  unfold JV at h
  obtain ⟨r1, h2, h⟩ := bi h
  have f3 : ∀ ws new s, (Jr (AF (J3 p)) J0m ([.p (.sl 3 (List.map J4 x0.Rows))], ws) 1 new).run s = some ⟨.slr new 0 (List.length r1), ws ++ [(new, .arr true 3 (List.map J4 r1))]⟩ := Jdj rfl (J4i p h2)
  try simp only [Nf, J1, Ju] at f3
  obtain ⟨y4, h5, h⟩ := bi h
  have f6 := J6k (r := J4) h5
  try simp only [Nf, J1, Ju] at f6
  have f7 : (0 ≤ (x1 : Int) ∧ (x1 : Int) < (((List.length r1) : Nat) : Int)) = True := eq_true (by have e0 := J9n h5; (try simp only [List.length_cons, List.length_nil, Nat.zero_add] at e0); omega)
  obtain ⟨r8, h9, h⟩ := bi h
  have f15 : ((List.map J4 r1))[(Int.toNat x1)]? = some (J4 y4) := J6k h5
  have f10 : ∀ ws new s, (J4V ws 4).run s = some (.arr true 3 (List.map J4 r1)) → ((List.length r1) : Nat) = List.length (List.map J4 r1) → J0a ws s [0, 1] [[.p (.i .i64 b0)], [.p (.i .i64 b1)]] → (Jr (AF (J3 p)) J03 ([.ep 4 (List.length r1) (Int.toNat x1) 0, .ptr 0 0, .ptr 1 0], ws) 0 new).run s = some ⟨.tup [], ws ++ [(4, .arr true 3 (List.set (List.map J4 r1) (Int.toNat x1) (J4 r8))), (0, .box ([.p (.i .i64 b0)])), (1, .box ([.p (.i .i64 b1)]))]⟩ := fun ws new s h1 h2 h3 => JbZ (args' := [.ptr 0 0, .ptr 1 0, .ptr 2 0]) (bs := [0, 1]) (css := [[.p (.i .i64 b0)], [.p (.i .i64 b1)]]) (css' := [[.p (.i .i64 b0)], [.p (.i .i64 b1)]]) (row := (J4 y4)) (row' := J4 r8) rfl rfl (by first | rfl | simp [ren.renL, ren, J1R]) (by simp [Jx, Ji]) (J8q p h9) rfl rfl (by simp [Jx, Ji]) ws new s h1 h2 f15 h3
  try simp only [Nf, J1, Ju] at f10
  obtain ⟨m11, h12, h⟩ := bi h
  have f13 : List.set (List.map J4 r1) (Int.toNat x1) (J4 r8) = List.map J4 m11 := by
    rw [← Option.some.inj h12, List.map_set]
  try simp only [Nf, J1, Ju] at f13
  have g14 : List.length m11 = List.length r1 := by rw [← Option.some.inj h12, List.length_set]
  obtain rfl := sj h
  try simp only [↓Da, Ua, J1V, J1, Ju, J7k, *, ↓reduceIte, Nat.reduceEqDiff, Nat.reduceAdd, Nat.reduceLT, Nat.reduceMul]
  rfl
theorem J2D {x0 : T_api_Index} {x1 : Int} {b0 : Int} {b1 : Int} {o : T_api_Index} (h : JV x0 x1 b0 b1 = some o) : AF (J3 p) J0T [.data (Ja x0), .p (.i .i64 x1), .fn J03 [] [.ptr 0 0, .ptr 1 0]] [.box [.p (.i .i64 b0)], .box [.p (.i .i64 b1)]] = (J2C b0 b1) o :=
  (J1e (J3 p) (J7i p) rfl).trans (J4m p h)
def J6I  (r : T_api_Index × Int) : Option Res := some (.tup [.data (Ja r.1), .p (.i .i64 r.2)], [])
def J0E (x0 : T_api_Index) (x1 : Int) (x2 : Int) (x3 : Int) : Option (T_api_Index × Int) :=
  Option.bind (J11 x0) fun r1 =>
  if r1 then
    Option.bind (J1j x0 x1) fun r5 =>
    if r5 then
      Option.bind (J0o x2) fun r9 =>
      if r9 then
        Option.bind (J0o x3) fun r13 =>
        if r13 then
          if ((x2 : Int) == 0) then
            if ((x3 : Int) != 0) then
              some ((⟨([] : List T_api_Row)⟩ : T_api_Index), 1)
            else
              Option.bind (JV x0 x1 x2 x3) fun r19 =>
              some (r19, 0)
          else
            Option.bind (JV x0 x1 x2 x3) fun r22 =>
            some (r22, 0)
        else
          some ((⟨([] : List T_api_Row)⟩ : T_api_Index), 1)
      else
        some ((⟨([] : List T_api_Row)⟩ : T_api_Index), 1)
    else
      some ((⟨([] : List T_api_Row)⟩ : T_api_Index), 1)
  else
    some ((⟨([] : List T_api_Row)⟩ : T_api_Index), 28)
theorem J7U {x0 : T_api_Index} {x1 : Int} {x2 : Int} {x3 : Int} {o : T_api_Index × Int} (h : J0E x0 x1 x2 x3 = some o) :
    rk (J3 p) J26 0 [] (X (J3 p) JP ⟨[(0, .data (Ja x0)), (1, .p (.i .i64 x1)), (2, .p (.i .i64 x2)), (3, .p (.i .i64 x3))], []⟩) = J6I o := by
  unfold J0E at h
  obtain ⟨r1, h2, h⟩ := bi h
  have f3 := J4E p h2
  try simp only [Nf, J1] at f3
  try simp only [↓Da, Ua, JP, J1, Je, *, ↓reduceIte, Nat.reduceEqDiff, Nat.reduceAdd, Nat.reduceLT, Nat.reduceMul]
  rcases Jd h with ⟨h4, h⟩ | ⟨h4, h⟩
  · obtain ⟨r5, h6, h⟩ := bi h
    have f7 := J7y p h6
    try simp only [Nf, J1] at f7
    try simp only [↓Da, Ua, JP, J1, Je, *, ↓reduceIte, Nat.reduceEqDiff, Nat.reduceAdd, Nat.reduceLT, Nat.reduceMul]
    rcases Jd h with ⟨h8, h⟩ | ⟨h8, h⟩
    · obtain ⟨r9, h10, h⟩ := bi h
      have f11 := J2H p h10
      try simp only [Nf, J1] at f11
      try simp only [↓Da, Ua, JP, J1, Je, *, ↓reduceIte, Nat.reduceEqDiff, Nat.reduceAdd, Nat.reduceLT, Nat.reduceMul]
      rcases Jd h with ⟨h12, h⟩ | ⟨h12, h⟩
      · obtain ⟨r13, h14, h⟩ := bi h
        have f15 := J2H p h14
        try simp only [Nf, J1] at f15
        try simp only [↓Da, Ua, JP, J1, Je, *, ↓reduceIte, Nat.reduceEqDiff, Nat.reduceAdd, Nat.reduceLT, Nat.reduceMul]
        rcases Jd h with ⟨h16, h⟩ | ⟨h16, h⟩
        · try try rw [h4] at h16
          try simp only [↓Da, Ua, JP, J1, Je, *, ↓reduceIte, Nat.reduceEqDiff, Nat.reduceAdd, Nat.reduceLT, Nat.reduceMul]
          rcases Jd h with ⟨h17, h⟩ | ⟨h17, h⟩
          · have h17n : ((x2 : Int) != 0) = false := by rw [bne, h17]; rfl
            try simp only [↓Da, Ua, JP, J1, Je, *, ↓reduceIte, Nat.reduceEqDiff, Nat.reduceAdd, Nat.reduceLT, Nat.reduceMul]
            rcases Jd h with ⟨h18, h⟩ | ⟨h18, h⟩
            · obtain rfl := sj h
              try simp only [↓Da, Ua, JP, J1, Je, J1B, *, ↓reduceIte, Nat.reduceEqDiff, Nat.reduceAdd, Nat.reduceLT, Nat.reduceMul]
              rfl
            · obtain ⟨r19, h20, h⟩ := bi h
              have f21 : ∀ ws new s, J0a ws s [1, 2] [[.p (.i .i64 x2)], [.p (.i .i64 x3)]] → (Jr (AF (J3 p)) J0T ([.data (Ja x0), .p (.i .i64 x1), .fn J03 [] [.ptr 1 0, .ptr 2 0]], ws) 0 new).run s = some ⟨.data (Ja r19), ws ++ [(1, .box ([.p (.i .i64 x2)])), (2, .box ([.p (.i .i64 x3)]))]⟩ := J0v (args' := [.data (Ja x0), .p (.i .i64 x1), .fn J03 [] [.ptr 0 0, .ptr 1 0]]) (bs := [1, 2]) (css := [[.p (.i .i64 x2)], [.p (.i .i64 x3)]]) (css' := [[.p (.i .i64 x2)], [.p (.i .i64 x3)]]) rfl rfl rfl (by simp [Jx, Ji]) (J2D p h20) rfl rfl (by simp [Jx, Ji])
              try simp only [Nf, J1] at f21
              obtain rfl := sj h
              try simp only [↓Da, Ua, JP, J1, Je, J1B, *, ↓reduceIte, Nat.reduceEqDiff, Nat.reduceAdd, Nat.reduceLT, Nat.reduceMul]
              rfl
          · have h17n : ((x2 : Int) != 0) = true := by rw [bne, h17]; rfl
            obtain ⟨r22, h23, h⟩ := bi h
            have f24 : ∀ ws new s, J0a ws s [1, 2] [[.p (.i .i64 x2)], [.p (.i .i64 x3)]] → (Jr (AF (J3 p)) J0T ([.data (Ja x0), .p (.i .i64 x1), .fn J03 [] [.ptr 1 0, .ptr 2 0]], ws) 0 new).run s = some ⟨.data (Ja r22), ws ++ [(1, .box ([.p (.i .i64 x2)])), (2, .box ([.p (.i .i64 x3)]))]⟩ := J0v (args' := [.data (Ja x0), .p (.i .i64 x1), .fn J03 [] [.ptr 0 0, .ptr 1 0]]) (bs := [1, 2]) (css := [[.p (.i .i64 x2)], [.p (.i .i64 x3)]]) (css' := [[.p (.i .i64 x2)], [.p (.i .i64 x3)]]) rfl rfl rfl (by simp [Jx, Ji]) (J2D p h23) rfl rfl (by simp [Jx, Ji])
            try simp only [Nf, J1] at f24
            obtain rfl := sj h
            try simp only [↓Da, Ua, JP, J1, Je, J1B, *, ↓reduceIte, Nat.reduceEqDiff, Nat.reduceAdd, Nat.reduceLT, Nat.reduceMul]
            rfl
        · try try rw [h4] at h16
          obtain rfl := sj h
          try simp only [↓Da, Ua, JP, J1, Je, J1B, *, ↓reduceIte, Nat.reduceEqDiff, Nat.reduceAdd, Nat.reduceLT, Nat.reduceMul]
          rfl
      · obtain rfl := sj h
        try simp only [↓Da, Ua, JP, J1, Je, J1B, *, ↓reduceIte, Nat.reduceEqDiff, Nat.reduceAdd, Nat.reduceLT, Nat.reduceMul]
        rfl
    · obtain rfl := sj h
      try simp only [↓Da, Ua, JP, J1, Je, J1B, *, ↓reduceIte, Nat.reduceEqDiff, Nat.reduceAdd, Nat.reduceLT, Nat.reduceMul]
      rfl
  · obtain rfl := sj h
    try simp only [↓Da, Ua, JP, J1, Je, J1B, *, ↓reduceIte, Nat.reduceEqDiff, Nat.reduceAdd, Nat.reduceLT, Nat.reduceMul]
    rfl
theorem J9Y {x0 : T_api_Index} {x1 : Int} {x2 : Int} {x3 : Int} {o : T_api_Index × Int} (h : J0E x0 x1 x2 x3 = some o) : AF (J3 p) J1A [.data (Ja x0), .p (.i .i64 x1), .p (.i .i64 x2), .p (.i .i64 x3)] [] = J6I o :=
  (J1e (J3 p) (Ja6 p) rfl).trans (J7U p h)
theorem J6N {x0 : T_api_Index} {x1 : Int} {x2 : Int} {x3 : Int} {o : T_api_Index × Int} (h : J0E x0 x1 x2 x3 = some o) : ∀ ws new st, (Jr (AF (J3 p)) J1A ([.data (Ja x0), .p (.i .i64 x1), .p (.i .i64 x2), .p (.i .i64 x3)], ws) 0 new).run st = some ⟨.tup [.data (Ja o.1), .p (.i .i64 o.2)], ws⟩ := J0b rfl (J9Y p h) rfl
def J2x  (r : (List UInt8) × Int) : Option Res := some (.tup [.p (.s r.1), .p (.i .i64 r.2)], [])
def Jac (x15 : List T_api_Row) (x16 : Int) (B0 : List PV) (o : ((List UInt8) × Int) ⊕ ((List UInt8) × Int)) : Option Res := match o with
  | .inl s => rk (J3 p) J0I 0 [.bl 0, .td 1 [2, 3, 4], .sq (.keep [4] J1F)] (X (J3 p) (.lp 1 [4, 15, 16, 17] J19) ⟨[(4, .p (.s s.1)), (15, .p (.sl 3 (List.map J4 x15))), (16, .p (.i .i64 x16)), (17, .p (.i .i64 s.2))], [.box (List.map AV.p B0)]⟩)
  | .inr o => J2x o
def J3G (x4 : List UInt8) : Option ((List UInt8) × Int) :=
  some (x4, 0)
theorem J9U {x4 : List UInt8} {B0 : List PV} {o : (List UInt8) × Int} (h : J3G x4 = some o) :
    rk (J3 p) J0I 0 [] (X (J3 p) J1F ⟨[(4, .p (.s x4))], [.box (List.map AV.p B0)]⟩) = J2x o := by
  unfold J3G at h
  obtain rfl := sj h
  try simp only [↓Da, Ua, J1F, J7l, ↓reduceIte, Nat.reduceEqDiff, Nat.reduceAdd, Nat.reduceLT, Nat.reduceMul]
  rfl
def J1C (x15 : List T_api_Row) (x16 : Int) (x4 : List UInt8) (x17 : Int) : Option ((((List UInt8) × Int) ⊕ ((List UInt8) × Int))) :=
  if (decide (x17 < x16)) then
    Option.bind (idx x15 x17) fun y2 =>
    Option.bind (J2l x4 y2.LSN 8) fun r5 =>
    Option.bind (J2l r5 y2.Image 8) fun r9 =>
    Option.bind (J2l r9 y2.ImageLSN 8) fun r13 =>
    some (.inl (r13, (IntKind.wrap .i64 (x17 + 1))))
  else
    Option.map (fun o => .inr o) (J3G x4)
theorem J6V {x15 : List T_api_Row} {x16 : Int} {x4 : List UInt8} {x17 : Int} {B0 : List PV} {o : (((List UInt8) × Int) ⊕ ((List UInt8) × Int))} (h : J1C x15 x16 x4 x17 = some o) :
    rk (J3 p) J0I 0 [.lo 1 [4, 15, 16, 17] J19, .bl 0, .td 1 [2, 3, 4], .sq (.keep [4] J1F)] (X (J3 p) J19 ⟨[(4, .p (.s x4)), (15, .p (.sl 3 (List.map J4 x15))), (16, .p (.i .i64 x16)), (17, .p (.i .i64 x17))], [.box (List.map AV.p B0)]⟩) = (Jac p x15 x16 B0) o := by
  unfold J1C at h
  rcases Jd h with ⟨h1, h⟩ | ⟨h1, h⟩
  · obtain ⟨y2, h3, h⟩ := bi h
    have f4 := J6o (r := J4) h3
    try simp only [Nf] at f4
    obtain ⟨r5, h6, h⟩ := bi h
    have f7 := J7d p h6
    try simp only [Nf] at f7
    have f8 : ∀ ws k new s, Jb ((Jr (AF (J3 p)) J2m ([.p (.s x4), .p (.i .i64 y2.LSN), .p (.i .i64 8)], ws) k new).reads s) = [] := J4u rfl
    try simp only [Nf] at f8
    obtain ⟨r9, h10, h⟩ := bi h
    have f11 := J7d p h10
    try simp only [Nf] at f11
    have f12 : ∀ ws k new s, Jb ((Jr (AF (J3 p)) J2m ([.p (.s r5), .p (.i .i64 y2.Image), .p (.i .i64 8)], ws) k new).reads s) = [] := J4u rfl
    try simp only [Nf] at f12
    obtain ⟨r13, h14, h⟩ := bi h
    have f15 := J7d p h14
    try simp only [Nf] at f15
    have f16 : ∀ ws k new s, Jb ((Jr (AF (J3 p)) J2m ([.p (.s r9), .p (.i .i64 y2.ImageLSN), .p (.i .i64 8)], ws) k new).reads s) = [] := J4u rfl
    try simp only [Nf] at f16
    obtain rfl := sj h
    try simp only [↓Da, Ua, Ra, J19, Je, *, ↓reduceIte, Nat.reduceEqDiff, Nat.reduceAdd, Nat.reduceLT, Nat.reduceMul, Nat.reduceBEq]
    rfl
  · obtain ⟨o', h', rfl⟩ := mi h
    try simp only [↓Da, Ua, Ra, J19, Je, *, ↓reduceIte, Nat.reduceEqDiff, Nat.reduceAdd, Nat.reduceLT, Nat.reduceMul, Nat.reduceBEq]
    have e0 := J9U p (B0 := B0) h'
    exact e0
def J6s (x15 : List T_api_Row) (x16 : Int) (s : (List UInt8) × Int) : Option ((List UInt8) × Int) :=
  J1u (fun s => J1C x15 x16 s.1 s.2) s
theorem J8U {x15 : List T_api_Row} {x16 : Int} {B0 : List PV} {s : (List UInt8) × Int} {o : (List UInt8) × Int} (h : J6s x15 x16 s = some o) :
    rk (J3 p) J0I 0 [.bl 0, .td 1 [2, 3, 4], .sq (.keep [4] J1F)] (X (J3 p) (.lp 1 [4, 15, 16, 17] J19) ⟨[(4, .p (.s s.1)), (15, .p (.sl 3 (List.map J4 x15))), (16, .p (.i .i64 x16)), (17, .p (.i .i64 s.2))], [.box (List.map AV.p B0)]⟩) = J2x o := by
  have h0 : J1u (fun s => J1C x15 x16 s.1 s.2) s = some o := h
  exact J6p (P := fun (s : (List UInt8) × Int) (o : (List UInt8) × Int) => rk (J3 p) J0I 0 [.bl 0, .td 1 [2, 3, 4], .sq (.keep [4] J1F)] (X (J3 p) (.lp 1 [4, 15, 16, 17] J19) ⟨[(4, .p (.s s.1)), (15, .p (.sl 3 (List.map J4 x15))), (16, .p (.i .i64 x16)), (17, .p (.i .i64 s.2))], [.box (List.map AV.p B0)]⟩) = J2x o) (fun s r hs => by rw [J6e]; exact J6V p hs) (fun s s1 r hs ih => by rw [J6e]; exact (J6V p hs).trans ih) h0
def J1U (x0 : T_api_Index) : Option ((List UInt8) × Int) :=
  Option.bind (J11 x0) fun r1 =>
  if r1 then
    Option.bind (J2l ([]) ((List.length x0.Rows : Nat) : Int) 2) fun r5 =>
    J6s x0.Rows ((List.length x0.Rows : Nat) : Int) (r5, 0)
  else
    some (([] : List UInt8), 28)
theorem J8M {x0 : T_api_Index} {o : (List UInt8) × Int} (h : J1U x0 = some o) :
    rk (J3 p) J0I 0 [] (X (J3 p) J1T ⟨[(0, .data (Ja x0))], []⟩) = J2x o := by
  unfold J1U at h
  obtain ⟨r1, h2, h⟩ := bi h
  have f3 := J4E p h2
  try simp only [Nf, J1] at f3
  try simp only [↓Da, Ua, J1T, J1, Je, *, ↓reduceIte, Nat.reduceEqDiff, Nat.reduceAdd, Nat.reduceLT, Nat.reduceMul]
  rcases Jd h with ⟨h4, h⟩ | ⟨h4, h⟩
  · obtain ⟨r5, h6, h⟩ := bi h
    have f7 := J7d p h6
    try simp only [Nf, J1] at f7
    try simp only [↓Da, Ua, J1T, J1, Je, *, ↓reduceIte, Nat.reduceEqDiff, Nat.reduceAdd, Nat.reduceLT, Nat.reduceMul]
    have e0 := J8U p (B0 := (Ja x0)) h
    exact e0
  · obtain rfl := sj h
    try simp only [↓Da, Ua, J1T, J1, Je, J7l, *, ↓reduceIte, Nat.reduceEqDiff, Nat.reduceAdd, Nat.reduceLT, Nat.reduceMul]
    rfl
theorem Jbd {x0 : T_api_Index} {o : (List UInt8) × Int} (h : J1U x0 = some o) : AF (J3 p) J2y [.data (Ja x0)] [] = J2x o :=
  (J1e (J3 p) (Jbb p) rfl).trans (J8M p h)
theorem Jbc {x0 : T_api_Index} {o : (List UInt8) × Int} (h : J1U x0 = some o) : ∀ ws new st, (Jr (AF (J3 p)) J2y ([.data (Ja x0)], ws) 0 new).run st = some ⟨.tup [.p (.s o.1), .p (.i .i64 o.2)], ws⟩ := J0b rfl (Jbd p h) rfl
def J0u  (r : Bool) : Option Res := some (.p (.b r), [])
def J6U (b0 : J6) : Option (Bool) :=
  if (decide (((List.length b0.Blob : Nat) : Int) ≤ 8192)) then
    Option.bind (J1z b0) fun r2 =>
    if r2 then
      Option.bind (J3R b0.Change) fun r6 =>
      some r6
    else
      some false
  else
    some false
theorem Jdn {b0 : J6} {o : Bool} (h : J6U b0 = some o) :
    rk (J3 p) J07 0 [] (X (J3 p) Jz ⟨[(1, .ptr 0 0), (3, .ptr 1 0)], [.box (List.map AV.p (J2 b0)), .box [.p (.b true), .p (.b false), .p (.b true), .p (.b false), .p (.b false), .fn Jv [] [], .fn J0j [] []]]⟩) = J0u o := by
  unfold J6U at h
  rcases Jd h with ⟨h1, h⟩ | ⟨h1, h⟩
  · obtain ⟨r2, h3, h⟩ := bi h
    have f4 := J53 p h3
    try simp only [Nf, J9, J5, J7] at f4
    try simp only [↓Da, Ua, Jz, J9, J5, J7, *, ↓reduceIte, Nat.reduceEqDiff, Nat.reduceAdd, Nat.reduceLT, Nat.reduceMul]
    rcases Jd h with ⟨h5, h⟩ | ⟨h5, h⟩
    · obtain ⟨r6, h7, h⟩ := bi h
      have f8 := J97 p h7
      try simp only [Nf, J9, J5, J7] at f8
      obtain rfl := sj h
      try simp only [↓Da, Ua, Jz, J9, J5, J7, Jt, *, ↓reduceIte, Nat.reduceEqDiff, Nat.reduceAdd, Nat.reduceLT, Nat.reduceMul]
      rfl
    · obtain rfl := sj h
      try simp only [↓Da, Ua, Jz, J9, J5, J7, Jt, *, ↓reduceIte, Nat.reduceEqDiff, Nat.reduceAdd, Nat.reduceLT, Nat.reduceMul]
      rfl
  · obtain rfl := sj h
    try simp only [↓Da, Ua, Jz, J9, J5, J7, Jt, *, ↓reduceIte, Nat.reduceEqDiff, Nat.reduceAdd, Nat.reduceLT, Nat.reduceMul]
    rfl
def J4f (x47 : Bool) (b0 : J6) : Option (Bool) :=
  if x47 then
    some false
  else
    if ((b0.Ref : Int) != 0) then
      some false
    else
      if (b0.Blob == []) then
        J6U b0
      else
        some false
theorem J6Q {x47 : Bool} {b0 : J6} {o : Bool} (h : J4f x47 b0 = some o) :
    rk (J3 p) J07 0 [.bl 0, .sq (.keep [1, 3] Jz)] (X (J3 p) Jl ⟨[(1, .ptr 0 0), (3, .ptr 1 0), (47, .p (.b x47))], [.box (List.map AV.p (J2 b0)), .box [.p (.b true), .p (.b false), .p (.b true), .p (.b false), .p (.b false), .fn Jv [] [], .fn J0j [] []]]⟩) = J0u o := by
  unfold J4f at h
  rcases Jd h with ⟨h1, h⟩ | ⟨h1, h⟩
  · obtain rfl := sj h
    try simp only [↓Da, Ua, Jl, J9, J5, J7, Jt, *, ↓reduceIte, Nat.reduceEqDiff, Nat.reduceAdd, Nat.reduceLT, Nat.reduceMul]
    rfl
  · try simp only [↓Da, Ua, Jl, J9, J5, J7, *, ↓reduceIte, Nat.reduceEqDiff, Nat.reduceAdd, Nat.reduceLT, Nat.reduceMul]
    rcases Jd h with ⟨h2, h⟩ | ⟨h2, h⟩
    · obtain rfl := sj h
      try simp only [↓Da, Ua, Jl, J9, J5, J7, Jt, *, ↓reduceIte, Nat.reduceEqDiff, Nat.reduceAdd, Nat.reduceLT, Nat.reduceMul]
      rfl
    · try simp only [↓Da, Ua, Jl, J9, J5, J7, *, ↓reduceIte, Nat.reduceEqDiff, Nat.reduceAdd, Nat.reduceLT, Nat.reduceMul]
      rcases Jd h with ⟨h3, h⟩ | ⟨h3, h⟩
      · try simp only [↓Da, Ua, Jl, J9, J5, J7, *, ↓reduceIte, Nat.reduceEqDiff, Nat.reduceAdd, Nat.reduceLT, Nat.reduceMul]
        have e0 := Jdn p h
        exact e0
      · obtain rfl := sj h
        try simp only [↓Da, Ua, Jl, J9, J5, J7, Jt, *, ↓reduceIte, Nat.reduceEqDiff, Nat.reduceAdd, Nat.reduceLT, Nat.reduceMul]
        rfl
def J6M (b0 : J6) : Option (Bool) :=
  if (decide (b0.Tx < 1)) then
    J4f true b0
  else
    if (decide (b0.Tx > 1073741824)) then
      J4f true b0
    else
      J4f false b0
theorem Jd0 {b0 : J6} {o : Bool} (h : J6M b0 = some o) :
    rk (J3 p) J07 0 [] (X (J3 p) JZ ⟨[(1, .ptr 0 0), (3, .ptr 1 0)], [.box (List.map AV.p (J2 b0)), .box [.p (.b true), .p (.b false), .p (.b true), .p (.b false), .p (.b false), .fn Jv [] [], .fn J0j [] []]]⟩) = J0u o := by
  unfold J6M at h
  rcases Jd h with ⟨h1, h⟩ | ⟨h1, h⟩
  · try simp only [↓Da, Ua, JZ, J9, J5, J7, *, ↓reduceIte, Nat.reduceEqDiff, Nat.reduceAdd, Nat.reduceLT, Nat.reduceMul]
    have e0 := J6Q p h
    exact e0
  · try simp only [↓Da, Ua, JZ, J9, J5, J7, *, ↓reduceIte, Nat.reduceEqDiff, Nat.reduceAdd, Nat.reduceLT, Nat.reduceMul]
    rcases Jd h with ⟨h2, h⟩ | ⟨h2, h⟩
    · try simp only [↓Da, Ua, JZ, J9, J5, J7, *, ↓reduceIte, Nat.reduceEqDiff, Nat.reduceAdd, Nat.reduceLT, Nat.reduceMul]
      have e0 := J6Q p h
      exact e0
    · try simp only [↓Da, Ua, JZ, J9, J5, J7, *, ↓reduceIte, Nat.reduceEqDiff, Nat.reduceAdd, Nat.reduceLT, Nat.reduceMul]
      have e0 := J6Q p h
      exact e0
def J5U (b0 : J6) : Option (Bool) :=
  if (decide (((List.length b0.Blob : Nat) : Int) ≤ 8192)) then
    Option.bind (J3W b0) fun r2 =>
    if r2 then
      Option.bind (J3R b0.Change) fun r6 =>
      some r6
    else
      some false
  else
    some false
theorem JbI {b0 : J6} {o : Bool} (h : J5U b0 = some o) :
    rk (J3 p) J07 0 [] (X (J3 p) Jz ⟨[(1, .ptr 0 0), (3, .ptr 1 0)], [.box (List.map AV.p (J2 b0)), .box [.p (.b true), .p (.b true), .p (.b true), .p (.b true), .p (.b false), .fn J0Y [] [], .fn J0j [] []]]⟩) = J0u o := by
  unfold J5U at h
  rcases Jd h with ⟨h1, h⟩ | ⟨h1, h⟩
  · obtain ⟨r2, h3, h⟩ := bi h
    have f4 := Jcn p h3
    try simp only [Nf, J9, J5, J7] at f4
    try simp only [↓Da, Ua, Jz, J9, J5, J7, *, ↓reduceIte, Nat.reduceEqDiff, Nat.reduceAdd, Nat.reduceLT, Nat.reduceMul]
    rcases Jd h with ⟨h5, h⟩ | ⟨h5, h⟩
    · obtain ⟨r6, h7, h⟩ := bi h
      have f8 := J97 p h7
      try simp only [Nf, J9, J5, J7] at f8
      obtain rfl := sj h
      try simp only [↓Da, Ua, Jz, J9, J5, J7, Jt, *, ↓reduceIte, Nat.reduceEqDiff, Nat.reduceAdd, Nat.reduceLT, Nat.reduceMul]
      rfl
    · obtain rfl := sj h
      try simp only [↓Da, Ua, Jz, J9, J5, J7, Jt, *, ↓reduceIte, Nat.reduceEqDiff, Nat.reduceAdd, Nat.reduceLT, Nat.reduceMul]
      rfl
  · obtain rfl := sj h
    try simp only [↓Da, Ua, Jz, J9, J5, J7, Jt, *, ↓reduceIte, Nat.reduceEqDiff, Nat.reduceAdd, Nat.reduceLT, Nat.reduceMul]
    rfl
def J3v (x47 : Bool) (b0 : J6) : Option (Bool) :=
  if x47 then
    some false
  else
    if (b0.Blob == []) then
      J5U b0
    else
      some false
theorem J62 {x47 : Bool} {b0 : J6} {o : Bool} (h : J3v x47 b0 = some o) :
    rk (J3 p) J07 0 [.bl 0, .sq (.keep [1, 3] Jz)] (X (J3 p) Jl ⟨[(1, .ptr 0 0), (3, .ptr 1 0), (47, .p (.b x47))], [.box (List.map AV.p (J2 b0)), .box [.p (.b true), .p (.b true), .p (.b true), .p (.b true), .p (.b false), .fn J0Y [] [], .fn J0j [] []]]⟩) = J0u o := by
  unfold J3v at h
  rcases Jd h with ⟨h1, h⟩ | ⟨h1, h⟩
  · obtain rfl := sj h
    try simp only [↓Da, Ua, Jl, J9, J5, J7, Jt, *, ↓reduceIte, Nat.reduceEqDiff, Nat.reduceAdd, Nat.reduceLT, Nat.reduceMul]
    rfl
  · try simp only [↓Da, Ua, Jl, J9, J5, J7, *, ↓reduceIte, Nat.reduceEqDiff, Nat.reduceAdd, Nat.reduceLT, Nat.reduceMul]
    rcases Jd h with ⟨h2, h⟩ | ⟨h2, h⟩
    · try simp only [↓Da, Ua, Jl, J9, J5, J7, *, ↓reduceIte, Nat.reduceEqDiff, Nat.reduceAdd, Nat.reduceLT, Nat.reduceMul]
      have e0 := JbI p h
      exact e0
    · obtain rfl := sj h
      try simp only [↓Da, Ua, Jl, J9, J5, J7, Jt, *, ↓reduceIte, Nat.reduceEqDiff, Nat.reduceAdd, Nat.reduceLT, Nat.reduceMul]
      rfl
def J60 (b0 : J6) : Option (Bool) :=
  if (decide (b0.Tx < 1)) then
    J3v true b0
  else
    if (decide (b0.Tx > 1073741824)) then
      J3v true b0
    else
      J3v ((b0.PrevTx : Int) == 0) b0
theorem JbS {b0 : J6} {o : Bool} (h : J60 b0 = some o) :
    rk (J3 p) J07 0 [] (X (J3 p) JZ ⟨[(1, .ptr 0 0), (3, .ptr 1 0)], [.box (List.map AV.p (J2 b0)), .box [.p (.b true), .p (.b true), .p (.b true), .p (.b true), .p (.b false), .fn J0Y [] [], .fn J0j [] []]]⟩) = J0u o := by
  unfold J60 at h
  rcases Jd h with ⟨h1, h⟩ | ⟨h1, h⟩
  · try simp only [↓Da, Ua, JZ, J9, J5, J7, *, ↓reduceIte, Nat.reduceEqDiff, Nat.reduceAdd, Nat.reduceLT, Nat.reduceMul]
    have e0 := J62 p h
    exact e0
  · try simp only [↓Da, Ua, JZ, J9, J5, J7, *, ↓reduceIte, Nat.reduceEqDiff, Nat.reduceAdd, Nat.reduceLT, Nat.reduceMul]
    rcases Jd h with ⟨h2, h⟩ | ⟨h2, h⟩
    · try simp only [↓Da, Ua, JZ, J9, J5, J7, *, ↓reduceIte, Nat.reduceEqDiff, Nat.reduceAdd, Nat.reduceLT, Nat.reduceMul]
      have e0 := J62 p h
      exact e0
    · try simp only [↓Da, Ua, JZ, J9, J5, J7, *, ↓reduceIte, Nat.reduceEqDiff, Nat.reduceAdd, Nat.reduceLT, Nat.reduceMul]
      have e0 := J62 p h
      exact e0
def J63 (b0 : J6) : Option (Bool) :=
  if (decide (((List.length b0.Blob : Nat) : Int) ≤ 8192)) then
    Option.bind (J1z b0) fun r2 =>
    if r2 then
      Option.bind (J4O b0.Change) fun r6 =>
      some r6
    else
      some false
  else
    some false
theorem JbN {b0 : J6} {o : Bool} (h : J63 b0 = some o) :
    rk (J3 p) J07 0 [] (X (J3 p) Jz ⟨[(1, .ptr 0 0), (3, .ptr 1 0)], [.box (List.map AV.p (J2 b0)), .box [.p (.b true), .p (.b true), .p (.b false), .p (.b false), .p (.b false), .fn Jv [] [], .fn J05 [] []]]⟩) = J0u o := by
  unfold J63 at h
  rcases Jd h with ⟨h1, h⟩ | ⟨h1, h⟩
  · obtain ⟨r2, h3, h⟩ := bi h
    have f4 := J53 p h3
    try simp only [Nf, J9, J5, J7] at f4
    try simp only [↓Da, Ua, Jz, J9, J5, J7, *, ↓reduceIte, Nat.reduceEqDiff, Nat.reduceAdd, Nat.reduceLT, Nat.reduceMul]
    rcases Jd h with ⟨h5, h⟩ | ⟨h5, h⟩
    · obtain ⟨r6, h7, h⟩ := bi h
      have f8 := JaS p h7
      try simp only [Nf, J9, J5, J7] at f8
      obtain rfl := sj h
      try simp only [↓Da, Ua, Jz, J9, J5, J7, Jt, *, ↓reduceIte, Nat.reduceEqDiff, Nat.reduceAdd, Nat.reduceLT, Nat.reduceMul]
      rfl
    · obtain rfl := sj h
      try simp only [↓Da, Ua, Jz, J9, J5, J7, Jt, *, ↓reduceIte, Nat.reduceEqDiff, Nat.reduceAdd, Nat.reduceLT, Nat.reduceMul]
      rfl
  · obtain rfl := sj h
    try simp only [↓Da, Ua, Jz, J9, J5, J7, Jt, *, ↓reduceIte, Nat.reduceEqDiff, Nat.reduceAdd, Nat.reduceLT, Nat.reduceMul]
    rfl
def J3w (x47 : Bool) (b0 : J6) : Option (Bool) :=
  if x47 then
    some false
  else
    if ((b0.PrevPage : Int) != 0) then
      some false
    else
      if ((b0.Ref : Int) != 0) then
        some false
      else
        if (b0.Blob == []) then
          J63 b0
        else
          some false
theorem J5Y {x47 : Bool} {b0 : J6} {o : Bool} (h : J3w x47 b0 = some o) :
    rk (J3 p) J07 0 [.bl 0, .sq (.keep [1, 3] Jz)] (X (J3 p) Jl ⟨[(1, .ptr 0 0), (3, .ptr 1 0), (47, .p (.b x47))], [.box (List.map AV.p (J2 b0)), .box [.p (.b true), .p (.b true), .p (.b false), .p (.b false), .p (.b false), .fn Jv [] [], .fn J05 [] []]]⟩) = J0u o := by
  unfold J3w at h
  rcases Jd h with ⟨h1, h⟩ | ⟨h1, h⟩
  · obtain rfl := sj h
    try simp only [↓Da, Ua, Jl, J9, J5, J7, Jt, *, ↓reduceIte, Nat.reduceEqDiff, Nat.reduceAdd, Nat.reduceLT, Nat.reduceMul]
    rfl
  · try simp only [↓Da, Ua, Jl, J9, J5, J7, *, ↓reduceIte, Nat.reduceEqDiff, Nat.reduceAdd, Nat.reduceLT, Nat.reduceMul]
    rcases Jd h with ⟨h2, h⟩ | ⟨h2, h⟩
    · obtain rfl := sj h
      try simp only [↓Da, Ua, Jl, J9, J5, J7, Jt, *, ↓reduceIte, Nat.reduceEqDiff, Nat.reduceAdd, Nat.reduceLT, Nat.reduceMul]
      rfl
    · try simp only [↓Da, Ua, Jl, J9, J5, J7, *, ↓reduceIte, Nat.reduceEqDiff, Nat.reduceAdd, Nat.reduceLT, Nat.reduceMul]
      rcases Jd h with ⟨h3, h⟩ | ⟨h3, h⟩
      · obtain rfl := sj h
        try simp only [↓Da, Ua, Jl, J9, J5, J7, Jt, *, ↓reduceIte, Nat.reduceEqDiff, Nat.reduceAdd, Nat.reduceLT, Nat.reduceMul]
        rfl
      · try simp only [↓Da, Ua, Jl, J9, J5, J7, *, ↓reduceIte, Nat.reduceEqDiff, Nat.reduceAdd, Nat.reduceLT, Nat.reduceMul]
        rcases Jd h with ⟨h4, h⟩ | ⟨h4, h⟩
        · try simp only [↓Da, Ua, Jl, J9, J5, J7, *, ↓reduceIte, Nat.reduceEqDiff, Nat.reduceAdd, Nat.reduceLT, Nat.reduceMul]
          have e0 := JbN p h
          exact e0
        · obtain rfl := sj h
          try simp only [↓Da, Ua, Jl, J9, J5, J7, Jt, *, ↓reduceIte, Nat.reduceEqDiff, Nat.reduceAdd, Nat.reduceLT, Nat.reduceMul]
          rfl
def J3x (b0 : J6) : Option (Bool) :=
  if (decide (b0.Tx < 1)) then
    J3w true b0
  else
    if (decide (b0.Tx > 1073741824)) then
      J3w true b0
    else
      J3w ((b0.PrevTx : Int) == 0) b0
theorem J64 {b0 : J6} {o : Bool} (h : J3x b0 = some o) :
    rk (J3 p) J07 0 [] (X (J3 p) JZ ⟨[(1, .ptr 0 0), (3, .ptr 1 0)], [.box (List.map AV.p (J2 b0)), .box [.p (.b true), .p (.b true), .p (.b false), .p (.b false), .p (.b false), .fn Jv [] [], .fn J05 [] []]]⟩) = J0u o := by
  unfold J3x at h
  rcases Jd h with ⟨h1, h⟩ | ⟨h1, h⟩
  · try simp only [↓Da, Ua, JZ, J9, J5, J7, *, ↓reduceIte, Nat.reduceEqDiff, Nat.reduceAdd, Nat.reduceLT, Nat.reduceMul]
    have e0 := J5Y p h
    exact e0
  · try simp only [↓Da, Ua, JZ, J9, J5, J7, *, ↓reduceIte, Nat.reduceEqDiff, Nat.reduceAdd, Nat.reduceLT, Nat.reduceMul]
    rcases Jd h with ⟨h2, h⟩ | ⟨h2, h⟩
    · try simp only [↓Da, Ua, JZ, J9, J5, J7, *, ↓reduceIte, Nat.reduceEqDiff, Nat.reduceAdd, Nat.reduceLT, Nat.reduceMul]
      have e0 := J5Y p h
      exact e0
    · try simp only [↓Da, Ua, JZ, J9, J5, J7, *, ↓reduceIte, Nat.reduceEqDiff, Nat.reduceAdd, Nat.reduceLT, Nat.reduceMul]
      have e0 := J5Y p h
      exact e0
def J5X (b0 : J6) : Option (Bool) :=
  if (decide (((List.length b0.Blob : Nat) : Int) ≤ 8192)) then
    Option.bind (J1z b0) fun r2 =>
    if r2 then
      Option.bind (J4O b0.Change) fun r6 =>
      some r6
    else
      some false
  else
    some false
theorem JbU {b0 : J6} {o : Bool} (h : J5X b0 = some o) :
    rk (J3 p) J07 0 [] (X (J3 p) Jz ⟨[(1, .ptr 0 0), (3, .ptr 1 0)], [.box (List.map AV.p (J2 b0)), .box [.p (.b false), .p (.b false), .p (.b false), .p (.b false), .p (.b true), .fn Jv [] [], .fn J05 [] []]]⟩) = J0u o := by
  unfold J5X at h
  rcases Jd h with ⟨h1, h⟩ | ⟨h1, h⟩
  · obtain ⟨r2, h3, h⟩ := bi h
    have f4 := J53 p h3
    try simp only [Nf, J9, J5, J7] at f4
    try simp only [↓Da, Ua, Jz, J9, J5, J7, *, ↓reduceIte, Nat.reduceEqDiff, Nat.reduceAdd, Nat.reduceLT, Nat.reduceMul]
    rcases Jd h with ⟨h5, h⟩ | ⟨h5, h⟩
    · obtain ⟨r6, h7, h⟩ := bi h
      have f8 := JaS p h7
      try simp only [Nf, J9, J5, J7] at f8
      obtain rfl := sj h
      try simp only [↓Da, Ua, Jz, J9, J5, J7, Jt, *, ↓reduceIte, Nat.reduceEqDiff, Nat.reduceAdd, Nat.reduceLT, Nat.reduceMul]
      rfl
    · obtain rfl := sj h
      try simp only [↓Da, Ua, Jz, J9, J5, J7, Jt, *, ↓reduceIte, Nat.reduceEqDiff, Nat.reduceAdd, Nat.reduceLT, Nat.reduceMul]
      rfl
  · obtain rfl := sj h
    try simp only [↓Da, Ua, Jz, J9, J5, J7, Jt, *, ↓reduceIte, Nat.reduceEqDiff, Nat.reduceAdd, Nat.reduceLT, Nat.reduceMul]
    rfl
def J61 (x47 : Bool) (b0 : J6) : Option (Bool) :=
  if x47 then
    some false
  else
    if ((b0.Tx : Int) != 0) then
      some false
    else
      if ((b0.PrevTx : Int) != 0) then
        some false
      else
        if ((b0.PrevPage : Int) != 0) then
          some false
        else
          if ((b0.Ref : Int) != 0) then
            some false
          else
            J5X b0
theorem JbE {x47 : Bool} {b0 : J6} {o : Bool} (h : J61 x47 b0 = some o) :
    rk (J3 p) J07 0 [.bl 0, .sq (.keep [1, 3] Jz)] (X (J3 p) Jl ⟨[(1, .ptr 0 0), (3, .ptr 1 0), (47, .p (.b x47))], [.box (List.map AV.p (J2 b0)), .box [.p (.b false), .p (.b false), .p (.b false), .p (.b false), .p (.b true), .fn Jv [] [], .fn J05 [] []]]⟩) = J0u o := by
  unfold J61 at h
  rcases Jd h with ⟨h1, h⟩ | ⟨h1, h⟩
  · obtain rfl := sj h
    try simp only [↓Da, Ua, Jl, J9, J5, J7, Jt, *, ↓reduceIte, Nat.reduceEqDiff, Nat.reduceAdd, Nat.reduceLT, Nat.reduceMul]
    rfl
  · try simp only [↓Da, Ua, Jl, J9, J5, J7, *, ↓reduceIte, Nat.reduceEqDiff, Nat.reduceAdd, Nat.reduceLT, Nat.reduceMul]
    rcases Jd h with ⟨h2, h⟩ | ⟨h2, h⟩
    · obtain rfl := sj h
      try simp only [↓Da, Ua, Jl, J9, J5, J7, Jt, *, ↓reduceIte, Nat.reduceEqDiff, Nat.reduceAdd, Nat.reduceLT, Nat.reduceMul]
      rfl
    · try simp only [↓Da, Ua, Jl, J9, J5, J7, *, ↓reduceIte, Nat.reduceEqDiff, Nat.reduceAdd, Nat.reduceLT, Nat.reduceMul]
      rcases Jd h with ⟨h3, h⟩ | ⟨h3, h⟩
      · obtain rfl := sj h
        try simp only [↓Da, Ua, Jl, J9, J5, J7, Jt, *, ↓reduceIte, Nat.reduceEqDiff, Nat.reduceAdd, Nat.reduceLT, Nat.reduceMul]
        rfl
      · try simp only [↓Da, Ua, Jl, J9, J5, J7, *, ↓reduceIte, Nat.reduceEqDiff, Nat.reduceAdd, Nat.reduceLT, Nat.reduceMul]
        rcases Jd h with ⟨h4, h⟩ | ⟨h4, h⟩
        · obtain rfl := sj h
          try simp only [↓Da, Ua, Jl, J9, J5, J7, Jt, *, ↓reduceIte, Nat.reduceEqDiff, Nat.reduceAdd, Nat.reduceLT, Nat.reduceMul]
          rfl
        · try simp only [↓Da, Ua, Jl, J9, J5, J7, *, ↓reduceIte, Nat.reduceEqDiff, Nat.reduceAdd, Nat.reduceLT, Nat.reduceMul]
          rcases Jd h with ⟨h5, h⟩ | ⟨h5, h⟩
          · obtain rfl := sj h
            try simp only [↓Da, Ua, Jl, J9, J5, J7, Jt, *, ↓reduceIte, Nat.reduceEqDiff, Nat.reduceAdd, Nat.reduceLT, Nat.reduceMul]
            rfl
          · try simp only [↓Da, Ua, Jl, J9, J5, J7, *, ↓reduceIte, Nat.reduceEqDiff, Nat.reduceAdd, Nat.reduceLT, Nat.reduceMul]
            have e0 := JbU p h
            exact e0
def J4M (b0 : J6) : Option (Bool) :=
  J61 false b0
theorem J7x {b0 : J6} {o : Bool} (h : J4M b0 = some o) :
    rk (J3 p) J07 0 [] (X (J3 p) JZ ⟨[(1, .ptr 0 0), (3, .ptr 1 0)], [.box (List.map AV.p (J2 b0)), .box [.p (.b false), .p (.b false), .p (.b false), .p (.b false), .p (.b true), .fn Jv [] [], .fn J05 [] []]]⟩) = J0u o := by
  unfold J4M at h
  try simp only [↓Da, Ua, JZ, ↓reduceIte, Nat.reduceEqDiff, Nat.reduceAdd, Nat.reduceLT, Nat.reduceMul]
  have e0 := JbE p h
  exact e0
def J4G (b0 : J6) : Option (Bool) :=
  if (decide (((List.length b0.Blob : Nat) : Int) ≤ 8192)) then
    Option.bind (J1z b0) fun r2 =>
    if r2 then
      Option.bind (J33 b0.Change) fun r6 =>
      some r6
    else
      some false
  else
    some false
theorem JbO {b0 : J6} {o : Bool} (h : J4G b0 = some o) :
    rk (J3 p) J07 0 [] (X (J3 p) Jz ⟨[(1, .ptr 0 0), (3, .ptr 1 0)], [.box (List.map AV.p (J2 b0)), .box [.p (.b false), .p (.b false), .p (.b false), .p (.b true), .p (.b false), .fn Jv [] [], .fn J0W [] []]]⟩) = J0u o := by
  unfold J4G at h
  rcases Jd h with ⟨h1, h⟩ | ⟨h1, h⟩
  · obtain ⟨r2, h3, h⟩ := bi h
    have f4 := J53 p h3
    try simp only [Nf, J9, J5, J7] at f4
    try simp only [↓Da, Ua, Jz, J9, J5, J7, *, ↓reduceIte, Nat.reduceEqDiff, Nat.reduceAdd, Nat.reduceLT, Nat.reduceMul]
    rcases Jd h with ⟨h5, h⟩ | ⟨h5, h⟩
    · obtain ⟨r6, h7, h⟩ := bi h
      have f8 := JcQ p h7
      try simp only [Nf, J9, J5, J7] at f8
      obtain rfl := sj h
      try simp only [↓Da, Ua, Jz, J9, J5, J7, Jt, *, ↓reduceIte, Nat.reduceEqDiff, Nat.reduceAdd, Nat.reduceLT, Nat.reduceMul]
      rfl
    · obtain rfl := sj h
      try simp only [↓Da, Ua, Jz, J9, J5, J7, Jt, *, ↓reduceIte, Nat.reduceEqDiff, Nat.reduceAdd, Nat.reduceLT, Nat.reduceMul]
      rfl
  · obtain rfl := sj h
    try simp only [↓Da, Ua, Jz, J9, J5, J7, Jt, *, ↓reduceIte, Nat.reduceEqDiff, Nat.reduceAdd, Nat.reduceLT, Nat.reduceMul]
    rfl
def J4K (x47 : Bool) (b0 : J6) : Option (Bool) :=
  if x47 then
    some false
  else
    if ((b0.Tx : Int) != 0) then
      some false
    else
      if ((b0.PrevTx : Int) != 0) then
        some false
      else
        if ((b0.PrevPage : Int) != 0) then
          some false
        else
          if (b0.Blob == []) then
            J4G b0
          else
            some false
theorem JbT {x47 : Bool} {b0 : J6} {o : Bool} (h : J4K x47 b0 = some o) :
    rk (J3 p) J07 0 [.bl 0, .sq (.keep [1, 3] Jz)] (X (J3 p) Jl ⟨[(1, .ptr 0 0), (3, .ptr 1 0), (47, .p (.b x47))], [.box (List.map AV.p (J2 b0)), .box [.p (.b false), .p (.b false), .p (.b false), .p (.b true), .p (.b false), .fn Jv [] [], .fn J0W [] []]]⟩) = J0u o := by
  unfold J4K at h
  rcases Jd h with ⟨h1, h⟩ | ⟨h1, h⟩
  · obtain rfl := sj h
    try simp only [↓Da, Ua, Jl, J9, J5, J7, Jt, *, ↓reduceIte, Nat.reduceEqDiff, Nat.reduceAdd, Nat.reduceLT, Nat.reduceMul]
    rfl
  · try simp only [↓Da, Ua, Jl, J9, J5, J7, *, ↓reduceIte, Nat.reduceEqDiff, Nat.reduceAdd, Nat.reduceLT, Nat.reduceMul]
    rcases Jd h with ⟨h2, h⟩ | ⟨h2, h⟩
    · obtain rfl := sj h
      try simp only [↓Da, Ua, Jl, J9, J5, J7, Jt, *, ↓reduceIte, Nat.reduceEqDiff, Nat.reduceAdd, Nat.reduceLT, Nat.reduceMul]
      rfl
    · try simp only [↓Da, Ua, Jl, J9, J5, J7, *, ↓reduceIte, Nat.reduceEqDiff, Nat.reduceAdd, Nat.reduceLT, Nat.reduceMul]
      rcases Jd h with ⟨h3, h⟩ | ⟨h3, h⟩
      · obtain rfl := sj h
        try simp only [↓Da, Ua, Jl, J9, J5, J7, Jt, *, ↓reduceIte, Nat.reduceEqDiff, Nat.reduceAdd, Nat.reduceLT, Nat.reduceMul]
        rfl
      · try simp only [↓Da, Ua, Jl, J9, J5, J7, *, ↓reduceIte, Nat.reduceEqDiff, Nat.reduceAdd, Nat.reduceLT, Nat.reduceMul]
        rcases Jd h with ⟨h4, h⟩ | ⟨h4, h⟩
        · obtain rfl := sj h
          try simp only [↓Da, Ua, Jl, J9, J5, J7, Jt, *, ↓reduceIte, Nat.reduceEqDiff, Nat.reduceAdd, Nat.reduceLT, Nat.reduceMul]
          rfl
        · try simp only [↓Da, Ua, Jl, J9, J5, J7, *, ↓reduceIte, Nat.reduceEqDiff, Nat.reduceAdd, Nat.reduceLT, Nat.reduceMul]
          rcases Jd h with ⟨h5, h⟩ | ⟨h5, h⟩
          · try simp only [↓Da, Ua, Jl, J9, J5, J7, *, ↓reduceIte, Nat.reduceEqDiff, Nat.reduceAdd, Nat.reduceLT, Nat.reduceMul]
            have e0 := JbO p h
            exact e0
          · obtain rfl := sj h
            try simp only [↓Da, Ua, Jl, J9, J5, J7, Jt, *, ↓reduceIte, Nat.reduceEqDiff, Nat.reduceAdd, Nat.reduceLT, Nat.reduceMul]
            rfl
def J4D (b0 : J6) : Option (Bool) :=
  J4K false b0
theorem JbB {b0 : J6} {o : Bool} (h : J4D b0 = some o) :
    rk (J3 p) J07 0 [] (X (J3 p) JZ ⟨[(1, .ptr 0 0), (3, .ptr 1 0)], [.box (List.map AV.p (J2 b0)), .box [.p (.b false), .p (.b false), .p (.b false), .p (.b true), .p (.b false), .fn Jv [] [], .fn J0W [] []]]⟩) = J0u o := by
  unfold J4D at h
  try simp only [↓Da, Ua, JZ, ↓reduceIte, Nat.reduceEqDiff, Nat.reduceAdd, Nat.reduceLT, Nat.reduceMul]
  have e0 := JbT p h
  exact e0
def J3q (x0 : J6) : Option (Bool) :=
  if (decide (x0.LSN < 1)) then
    some false
  else
    if (decide (x0.LSN > 1099511627776)) then
      some false
    else
      if (decide (x0.Kind < 1)) then
        some false
      else
        if (decide (x0.Kind > 8)) then
          some false
        else
          Option.bind (J2v x0.PrevTx x0) fun r5 =>
          if r5 then
            Option.bind (J2v x0.PrevPage x0) fun r9 =>
            if r9 then
              Option.bind (J2v x0.Ref x0) fun r13 =>
              if r13 then
                Option.bind (J47) fun r17 =>
                if ((x0.Kind : Int) == 1) then
                  J6M x0
                else
                  if ((x0.Kind : Int) == 2) then
                    J60 x0
                  else
                    if ((x0.Kind : Int) == 3) then
                      J3x x0
                    else
                      if ((x0.Kind : Int) == 4) then
                        J3x x0
                      else
                        if ((x0.Kind : Int) == 5) then
                          J3x x0
                        else
                          if ((x0.Kind : Int) == 6) then
                            J4M x0
                          else
                            if ((x0.Kind : Int) == 7) then
                              J4D x0
                            else
                              if ((x0.Kind : Int) == 8) then
                                J4M x0
                              else
                                none
              else
                some false
            else
              some false
          else
            some false
theorem JbL {x0 : J6} {o : Bool} (h : J3q x0 = some o) :
    rk (J3 p) J07 0 [] (X (J3 p) JF ⟨[(0, .data (J2 x0))], []⟩) = J0u o := by
  unfold J3q at h
  rcases Jd h with ⟨h1, h⟩ | ⟨h1, h⟩
  · obtain rfl := sj h
    try simp only [↓Da, Ua, Ra, JF, J9, J5, J7, Jt, *, ↓reduceIte, Nat.reduceEqDiff, Nat.reduceAdd, Nat.reduceLT, Nat.reduceMul, Nat.reduceBEq]
    rfl
  · try simp only [↓Da, Ua, Ra, JF, J9, J5, J7, *, ↓reduceIte, Nat.reduceEqDiff, Nat.reduceAdd, Nat.reduceLT, Nat.reduceMul, Nat.reduceBEq]
    rcases Jd h with ⟨h2, h⟩ | ⟨h2, h⟩
    · obtain rfl := sj h
      try simp only [↓Da, Ua, Ra, JF, J9, J5, J7, Jt, *, ↓reduceIte, Nat.reduceEqDiff, Nat.reduceAdd, Nat.reduceLT, Nat.reduceMul, Nat.reduceBEq]
      rfl
    · try simp only [↓Da, Ua, Ra, JF, J9, J5, J7, *, ↓reduceIte, Nat.reduceEqDiff, Nat.reduceAdd, Nat.reduceLT, Nat.reduceMul, Nat.reduceBEq]
      rcases Jd h with ⟨h3, h⟩ | ⟨h3, h⟩
      · obtain rfl := sj h
        try simp only [↓Da, Ua, Ra, JF, J9, J5, J7, Jt, *, ↓reduceIte, Nat.reduceEqDiff, Nat.reduceAdd, Nat.reduceLT, Nat.reduceMul, Nat.reduceBEq]
        rfl
      · try simp only [↓Da, Ua, Ra, JF, J9, J5, J7, *, ↓reduceIte, Nat.reduceEqDiff, Nat.reduceAdd, Nat.reduceLT, Nat.reduceMul, Nat.reduceBEq]
        rcases Jd h with ⟨h4, h⟩ | ⟨h4, h⟩
        · obtain rfl := sj h
          try simp only [↓Da, Ua, Ra, JF, J9, J5, J7, Jt, *, ↓reduceIte, Nat.reduceEqDiff, Nat.reduceAdd, Nat.reduceLT, Nat.reduceMul, Nat.reduceBEq]
          rfl
        · obtain ⟨r5, h6, h⟩ := bi h
          have f7 := J76 p h6
          try simp only [Nf, J9, J5, J7] at f7
          try simp only [↓Da, Ua, Ra, JF, J9, J5, J7, *, ↓reduceIte, Nat.reduceEqDiff, Nat.reduceAdd, Nat.reduceLT, Nat.reduceMul, Nat.reduceBEq]
          rcases Jd h with ⟨h8, h⟩ | ⟨h8, h⟩
          · obtain ⟨r9, h10, h⟩ := bi h
            have f11 := J76 p h10
            try simp only [Nf, J9, J5, J7] at f11
            try simp only [↓Da, Ua, Ra, JF, J9, J5, J7, *, ↓reduceIte, Nat.reduceEqDiff, Nat.reduceAdd, Nat.reduceLT, Nat.reduceMul, Nat.reduceBEq]
            rcases Jd h with ⟨h12, h⟩ | ⟨h12, h⟩
            · obtain ⟨r13, h14, h⟩ := bi h
              have f15 := J76 p h14
              try simp only [Nf, J9, J5, J7] at f15
              try simp only [↓Da, Ua, Ra, JF, J9, J5, J7, *, ↓reduceIte, Nat.reduceEqDiff, Nat.reduceAdd, Nat.reduceLT, Nat.reduceMul, Nat.reduceBEq]
              rcases Jd h with ⟨h16, h⟩ | ⟨h16, h⟩
              · obtain ⟨r17, h18, h⟩ := bi h
                have f19 := JeX p h18
                try simp only [Nf, J9, J5, J7] at f19
                have f20 : ∀ ws k new s, Jb ((Jr (AF (J3 p)) J3s ([], ws) k new).reads s) = [] := J4u rfl
                try simp only [Nf, J9, J5, J7] at f20
                try simp only [↓Da, Ua, Ra, JF, J9, J5, J7, *, ↓reduceIte, Nat.reduceEqDiff, Nat.reduceAdd, Nat.reduceLT, Nat.reduceMul, Nat.reduceBEq]
                rcases Jd h with ⟨h21, h⟩ | ⟨h21, h⟩
                · have h21n : ((x0.Kind : Int) != 1) = false := by rw [bne, h21]; rfl
                  have h21k : x0.Kind = 1 := by simpa using h21
                  have f22 : (0 ≤ (x0.Kind : Int) ∧ (x0.Kind : Int) < ((9 : Nat) : Int)) = True := by rw [h21k]; decide
                  have f23 : Int.toNat x0.Kind * 7 = 7 := by rw [h21k]; rfl
                  clear h21k
                  try simp only [↓Da, Ua, Ra, JF, J9, J5, J7, *, ↓reduceIte, Nat.reduceEqDiff, Nat.reduceAdd, Nat.reduceLT, Nat.reduceMul, Nat.reduceBEq]
                  have e0 := Jd0 p h
                  exact e0
                · have h21n : ((x0.Kind : Int) != 1) = true := by rw [bne, h21]; rfl
                  try simp only [↓Da, Ua, Ra, JF, J9, J5, J7, *, ↓reduceIte, Nat.reduceEqDiff, Nat.reduceAdd, Nat.reduceLT, Nat.reduceMul, Nat.reduceBEq]
                  rcases Jd h with ⟨h24, h⟩ | ⟨h24, h⟩
                  · have h24n : ((x0.Kind : Int) != 2) = false := by rw [bne, h24]; rfl
                    have h24k : x0.Kind = 2 := by simpa using h24
                    have f25 : (0 ≤ (x0.Kind : Int) ∧ (x0.Kind : Int) < ((9 : Nat) : Int)) = True := by rw [h24k]; decide
                    have f26 : Int.toNat x0.Kind * 7 = 14 := by rw [h24k]; rfl
                    clear h24k
                    try simp only [↓Da, Ua, Ra, JF, J9, J5, J7, *, ↓reduceIte, Nat.reduceEqDiff, Nat.reduceAdd, Nat.reduceLT, Nat.reduceMul, Nat.reduceBEq]
                    have e0 := JbS p h
                    exact e0
                  · have h24n : ((x0.Kind : Int) != 2) = true := by rw [bne, h24]; rfl
                    try simp only [↓Da, Ua, Ra, JF, J9, J5, J7, *, ↓reduceIte, Nat.reduceEqDiff, Nat.reduceAdd, Nat.reduceLT, Nat.reduceMul, Nat.reduceBEq]
                    rcases Jd h with ⟨h27, h⟩ | ⟨h27, h⟩
                    · have h27n : ((x0.Kind : Int) != 3) = false := by rw [bne, h27]; rfl
                      have h27k : x0.Kind = 3 := by simpa using h27
                      have f28 : (0 ≤ (x0.Kind : Int) ∧ (x0.Kind : Int) < ((9 : Nat) : Int)) = True := by rw [h27k]; decide
                      have f29 : Int.toNat x0.Kind * 7 = 21 := by rw [h27k]; rfl
                      clear h27k
                      try simp only [↓Da, Ua, Ra, JF, J9, J5, J7, *, ↓reduceIte, Nat.reduceEqDiff, Nat.reduceAdd, Nat.reduceLT, Nat.reduceMul, Nat.reduceBEq]
                      have e0 := J64 p h
                      exact e0
                    · have h27n : ((x0.Kind : Int) != 3) = true := by rw [bne, h27]; rfl
                      try simp only [↓Da, Ua, Ra, JF, J9, J5, J7, *, ↓reduceIte, Nat.reduceEqDiff, Nat.reduceAdd, Nat.reduceLT, Nat.reduceMul, Nat.reduceBEq]
                      rcases Jd h with ⟨h30, h⟩ | ⟨h30, h⟩
                      · have h30n : ((x0.Kind : Int) != 4) = false := by rw [bne, h30]; rfl
                        have h30k : x0.Kind = 4 := by simpa using h30
                        have f31 : (0 ≤ (x0.Kind : Int) ∧ (x0.Kind : Int) < ((9 : Nat) : Int)) = True := by rw [h30k]; decide
                        have f32 : Int.toNat x0.Kind * 7 = 28 := by rw [h30k]; rfl
                        clear h30k
                        try simp only [↓Da, Ua, Ra, JF, J9, J5, J7, *, ↓reduceIte, Nat.reduceEqDiff, Nat.reduceAdd, Nat.reduceLT, Nat.reduceMul, Nat.reduceBEq]
                        have e0 := J64 p h
                        exact e0
                      · have h30n : ((x0.Kind : Int) != 4) = true := by rw [bne, h30]; rfl
                        try simp only [↓Da, Ua, Ra, JF, J9, J5, J7, *, ↓reduceIte, Nat.reduceEqDiff, Nat.reduceAdd, Nat.reduceLT, Nat.reduceMul, Nat.reduceBEq]
                        rcases Jd h with ⟨h33, h⟩ | ⟨h33, h⟩
                        · have h33n : ((x0.Kind : Int) != 5) = false := by rw [bne, h33]; rfl
                          have h33k : x0.Kind = 5 := by simpa using h33
                          have f34 : (0 ≤ (x0.Kind : Int) ∧ (x0.Kind : Int) < ((9 : Nat) : Int)) = True := by rw [h33k]; decide
                          have f35 : Int.toNat x0.Kind * 7 = 35 := by rw [h33k]; rfl
                          clear h33k
                          try simp only [↓Da, Ua, Ra, JF, J9, J5, J7, *, ↓reduceIte, Nat.reduceEqDiff, Nat.reduceAdd, Nat.reduceLT, Nat.reduceMul, Nat.reduceBEq]
                          have e0 := J64 p h
                          exact e0
                        · have h33n : ((x0.Kind : Int) != 5) = true := by rw [bne, h33]; rfl
                          try simp only [↓Da, Ua, Ra, JF, J9, J5, J7, *, ↓reduceIte, Nat.reduceEqDiff, Nat.reduceAdd, Nat.reduceLT, Nat.reduceMul, Nat.reduceBEq]
                          rcases Jd h with ⟨h36, h⟩ | ⟨h36, h⟩
                          · have h36n : ((x0.Kind : Int) != 6) = false := by rw [bne, h36]; rfl
                            have h36k : x0.Kind = 6 := by simpa using h36
                            have f37 : (0 ≤ (x0.Kind : Int) ∧ (x0.Kind : Int) < ((9 : Nat) : Int)) = True := by rw [h36k]; decide
                            have f38 : Int.toNat x0.Kind * 7 = 42 := by rw [h36k]; rfl
                            clear h36k
                            try simp only [↓Da, Ua, Ra, JF, J9, J5, J7, *, ↓reduceIte, Nat.reduceEqDiff, Nat.reduceAdd, Nat.reduceLT, Nat.reduceMul, Nat.reduceBEq]
                            have e0 := J7x p h
                            exact e0
                          · have h36n : ((x0.Kind : Int) != 6) = true := by rw [bne, h36]; rfl
                            try simp only [↓Da, Ua, Ra, JF, J9, J5, J7, *, ↓reduceIte, Nat.reduceEqDiff, Nat.reduceAdd, Nat.reduceLT, Nat.reduceMul, Nat.reduceBEq]
                            rcases Jd h with ⟨h39, h⟩ | ⟨h39, h⟩
                            · have h39n : ((x0.Kind : Int) != 7) = false := by rw [bne, h39]; rfl
                              have h39k : x0.Kind = 7 := by simpa using h39
                              have f40 : (0 ≤ (x0.Kind : Int) ∧ (x0.Kind : Int) < ((9 : Nat) : Int)) = True := by rw [h39k]; decide
                              have f41 : Int.toNat x0.Kind * 7 = 49 := by rw [h39k]; rfl
                              clear h39k
                              try simp only [↓Da, Ua, Ra, JF, J9, J5, J7, *, ↓reduceIte, Nat.reduceEqDiff, Nat.reduceAdd, Nat.reduceLT, Nat.reduceMul, Nat.reduceBEq]
                              have e0 := JbB p h
                              exact e0
                            · have h39n : ((x0.Kind : Int) != 7) = true := by rw [bne, h39]; rfl
                              try simp only [↓Da, Ua, Ra, JF, J9, J5, J7, *, ↓reduceIte, Nat.reduceEqDiff, Nat.reduceAdd, Nat.reduceLT, Nat.reduceMul, Nat.reduceBEq]
                              rcases Jd h with ⟨h42, h⟩ | ⟨h42, h⟩
                              · have h42n : ((x0.Kind : Int) != 8) = false := by rw [bne, h42]; rfl
                                have h42k : x0.Kind = 8 := by simpa using h42
                                have f43 : (0 ≤ (x0.Kind : Int) ∧ (x0.Kind : Int) < ((9 : Nat) : Int)) = True := by rw [h42k]; decide
                                have f44 : Int.toNat x0.Kind * 7 = 56 := by rw [h42k]; rfl
                                clear h42k
                                try simp only [↓Da, Ua, Ra, JF, J9, J5, J7, *, ↓reduceIte, Nat.reduceEqDiff, Nat.reduceAdd, Nat.reduceLT, Nat.reduceMul, Nat.reduceBEq]
                                have e0 := J7x p h
                                exact e0
                              · have h42n : ((x0.Kind : Int) != 8) = true := by rw [bne, h42]; rfl
                                cases h
              · obtain rfl := sj h
                try simp only [↓Da, Ua, Ra, JF, J9, J5, J7, Jt, *, ↓reduceIte, Nat.reduceEqDiff, Nat.reduceAdd, Nat.reduceLT, Nat.reduceMul, Nat.reduceBEq]
                rfl
            · obtain rfl := sj h
              try simp only [↓Da, Ua, Ra, JF, J9, J5, J7, Jt, *, ↓reduceIte, Nat.reduceEqDiff, Nat.reduceAdd, Nat.reduceLT, Nat.reduceMul, Nat.reduceBEq]
              rfl
          · obtain rfl := sj h
            try simp only [↓Da, Ua, Ra, JF, J9, J5, J7, Jt, *, ↓reduceIte, Nat.reduceEqDiff, Nat.reduceAdd, Nat.reduceLT, Nat.reduceMul, Nat.reduceBEq]
            rfl
theorem JeR {x0 : J6} {o : Bool} (h : J3q x0 = some o) : AF (J3 p) J46 [.data (J2 x0)] [] = J0u o :=
  (J1e (J3 p) (Jf1 p) rfl).trans (JbL p h)
theorem JeK {x0 : J6} {o : Bool} (h : J3q x0 = some o) : ∀ ws new st, (Jr (AF (J3 p)) J46 ([.data (J2 x0)], ws) 0 new).run st = some ⟨.p (.b o), ws⟩ := J0b rfl (JeR p h) rfl
end
end Go.Am
end
section
namespace Go.Am
set_option maxRecDepth 8000
set_option maxHeartbeats 4000000
set_option linter.unusedSimpArgs false
set_option linter.unusedVariables false
noncomputable section
variable (p : FuncId → Option (List AV → List Blk → Option Res))
def J6Y (b1 : J6) (r : T_api_Row) : Option Res := some (.tup [], [.box (List.map AV.p (J4 r)), .box (List.map AV.p (J2 b1))])
def J2W (b0 : T_api_Row) (b1 : J6) : Option (T_api_Row) :=
  some (⟨(J7X b0.LSN b1.Ref), b0.Image, b0.ImageLSN⟩ : T_api_Row)
theorem J8r {b0 : T_api_Row} {b1 : J6} {o : T_api_Row} (h : J2W b0 b1 = some o) :
    rk (J3 p) J2i 2 [] (X (J3 p) J2Y ⟨[(0, .ptr 0 0), (1, .ptr 1 0)], [.box (List.map AV.p (J4 b0)), .box (List.map AV.p (J2 b1))]⟩) = (J6Y b1) o := by
  unfold J2W at h
  obtain rfl := sj h
  try simp only [↓Da, Ua, J2Y, Jk, Jh, Jq, Je, Jap, ↓reduceIte, Nat.reduceEqDiff, Nat.reduceAdd, Nat.reduceLT, Nat.reduceMul]
  rfl
theorem Jat {b0 : T_api_Row} {b1 : J6} {o : T_api_Row} (h : J2W b0 b1 = some o) : AF (J3 p) J0M [.ptr 0 0, .ptr 1 0] [.box (List.map AV.p (J4 b0)), .box (List.map AV.p (J2 b1))] = (J6Y b1) o :=
  (J1e (J3 p) (Jar p) rfl).trans (J8r p h)
def J3b (b0 : J6) (r : T_api_Index) : Option Res := some (.data (Ja r), [.box (List.map AV.p (J2 b0))])
def J04 (x0 : T_api_Index) (x1 : Int) (b0 : J6) : Option (T_api_Index) :=
  Option.bind (J0K x0.Rows) fun r1 =>
  Option.bind (idx r1 x1) fun y4 =>
  Option.bind (J2W y4 b0) fun r8 =>
  Option.bind (some (List.set r1 (Int.toNat x1) r8)) fun m11 =>
  some (⟨m11⟩ : T_api_Index)
theorem J4Y {x0 : T_api_Index} {x1 : Int} {b0 : J6} {o : T_api_Index} (h : J04 x0 x1 b0 = some o) :
    rk (J3 p) J1Z 1 [] (X (J3 p) J1V ⟨[(0, .data (Ja x0)), (1, .p (.i .i64 x1)), (2, .fn J0M [] [.ptr 0 0])], [.box (List.map AV.p (J2 b0))]⟩) = (J3b b0) o := by
  unfold J04 at h
  obtain ⟨r1, h2, h⟩ := bi h
  have f3 : ∀ ws new s, (Jr (AF (J3 p)) J0m ([.p (.sl 3 (List.map J4 x0.Rows))], ws) 1 new).run s = some ⟨.slr new 0 (List.length r1), ws ++ [(new, .arr true 3 (List.map J4 r1))]⟩ := Jdj rfl (J4i p h2)
  try simp only [Nf, J1, J9, J5, J7, Ju] at f3
  obtain ⟨y4, h5, h⟩ := bi h
  have f6 := J6k (r := J4) h5
  try simp only [Nf, J1, J9, J5, J7, Ju] at f6
  have f7 : (0 ≤ (x1 : Int) ∧ (x1 : Int) < (((List.length r1) : Nat) : Int)) = True := eq_true (by have e0 := J9n h5; (try simp only [List.length_cons, List.length_nil, Nat.zero_add] at e0); omega)
  obtain ⟨r8, h9, h⟩ := bi h
  have f15 : ((List.map J4 r1))[(Int.toNat x1)]? = some (J4 y4) := J6k h5
  have f10 : ∀ ws new s, (J4V ws 3).run s = some (.arr true 3 (List.map J4 r1)) → ((List.length r1) : Nat) = List.length (List.map J4 r1) → J0a ws s [0] [List.map AV.p (J2 b0)] → (Jr (AF (J3 p)) J0M ([.ep 3 (List.length r1) (Int.toNat x1) 0, .ptr 0 0], ws) 0 new).run s = some ⟨.tup [], ws ++ [(3, .arr true 3 (List.set (List.map J4 r1) (Int.toNat x1) (J4 r8))), (0, .box (List.map AV.p (J2 b0)))]⟩ := fun ws new s h1 h2 h3 => JbZ (args' := [.ptr 0 0, .ptr 1 0]) (bs := [0]) (css := [List.map AV.p (J2 b0)]) (css' := [List.map AV.p (J2 b0)]) (row := (J4 y4)) (row' := J4 r8) rfl rfl (by first | rfl | simp [ren.renL, ren, J1R]) (by simp [Jx, Ji]) (Jat p h9) rfl rfl (by simp [Jx, Ji]) ws new s h1 h2 f15 h3
  try simp only [Nf, J1, J9, J5, J7, Ju] at f10
  obtain ⟨m11, h12, h⟩ := bi h
  have f13 : List.set (List.map J4 r1) (Int.toNat x1) (J4 r8) = List.map J4 m11 := by
    rw [← Option.some.inj h12, List.map_set]
  try simp only [Nf, J1, J9, J5, J7, Ju] at f13
  have g14 : List.length m11 = List.length r1 := by rw [← Option.some.inj h12, List.length_set]
  obtain rfl := sj h
  try simp only [↓Da, Ua, J1V, J1, J9, J5, J7, Ju, J7k, *, ↓reduceIte, Nat.reduceEqDiff, Nat.reduceAdd, Nat.reduceLT, Nat.reduceMul]
  rfl
theorem J5w {x0 : T_api_Index} {x1 : Int} {b0 : J6} {o : T_api_Index} (h : J04 x0 x1 b0 = some o) : AF (J3 p) J0T [.data (Ja x0), .p (.i .i64 x1), .fn J0M [] [.ptr 0 0]] [.box (List.map AV.p (J2 b0))] = (J3b b0) o :=
  (J1e (J3 p) (J7i p) rfl).trans (J4Y p h)
def J8g  (r : T_api_Index × Int) : Option Res := some (.tup [.data (Ja r.1), .p (.i .i64 r.2)], [])
def J0n (x0 : T_api_Index) (x1 : J6) : Option (T_api_Index × Int) :=
  Option.bind (J11 x0) fun r1 =>
  if r1 then
    Option.bind (J3q x1) fun r5 =>
    if r5 then
      if ((x1.Kind : Int) != 7) then
        some (x0, 0)
      else
        Option.bind (J1j x0 x1.Change.Page) fun r11 =>
        if r11 then
          Option.bind (J04 x0 x1.Change.Page x1) fun r16 =>
          some (r16, 0)
        else
          some ((⟨([] : List T_api_Row)⟩ : T_api_Index), 1)
    else
      some ((⟨([] : List T_api_Row)⟩ : T_api_Index), 12)
  else
    some ((⟨([] : List T_api_Row)⟩ : T_api_Index), 28)
theorem J9X {x0 : T_api_Index} {x1 : J6} {o : T_api_Index × Int} (h : J0n x0 x1 = some o) :
    rk (J3 p) J35 0 [] (X (J3 p) J0x ⟨[(0, .data (Ja x0)), (1, .data (J2 x1))], []⟩) = J8g o := by
  unfold J0n at h
  obtain ⟨r1, h2, h⟩ := bi h
  have f3 := J4E p h2
  try simp only [Nf, J1] at f3
  try simp only [↓Da, Ua, J0x, J1, Jk, Jh, Jq, Je, *, ↓reduceIte, Nat.reduceEqDiff, Nat.reduceAdd, Nat.reduceLT, Nat.reduceMul]
  rcases Jd h with ⟨h4, h⟩ | ⟨h4, h⟩
  · obtain ⟨r5, h6, h⟩ := bi h
    have f7 := JeK p h6
    try simp only [Nf, J1] at f7
    try simp only [↓Da, Ua, J0x, J1, Jk, Jh, Jq, Je, *, ↓reduceIte, Nat.reduceEqDiff, Nat.reduceAdd, Nat.reduceLT, Nat.reduceMul]
    rcases Jd h with ⟨h8, h⟩ | ⟨h8, h⟩
    · try simp only [↓Da, Ua, J0x, J1, Jk, Jh, Jq, Je, *, ↓reduceIte, Nat.reduceEqDiff, Nat.reduceAdd, Nat.reduceLT, Nat.reduceMul]
      rcases Jd h with ⟨h9, h⟩ | ⟨h9, h⟩
      · obtain rfl := sj h
        try simp only [↓Da, Ua, J0x, J1, Jk, Jh, Jq, Je, J40, *, ↓reduceIte, Nat.reduceEqDiff, Nat.reduceAdd, Nat.reduceLT, Nat.reduceMul]
        rfl
      · have f10 : sub (J2 x1) 6 1 = some ((r_i .i64) x1.Change.Page) := by
          have e0 := (Jh3 (J55 x1) (J5q x1.Change))
          exact e0
        try simp only [Nf, J1] at f10
        obtain ⟨r11, h12, h⟩ := bi h
        have f13 := J7y p h12
        try simp only [Nf, J1] at f13
        try simp only [↓Da, Ua, J0x, J1, Jk, Jh, Jq, Je, *, ↓reduceIte, Nat.reduceEqDiff, Nat.reduceAdd, Nat.reduceLT, Nat.reduceMul]
        rcases Jd h with ⟨h14, h⟩ | ⟨h14, h⟩
        · try try rw [h4] at h14
          have f15 : sub (J2 x1) 6 1 = some ((r_i .i64) x1.Change.Page) := by
            have e0 := (Jh3 (J55 x1) (J5q x1.Change))
            exact e0
          try simp only [Nf, J1] at f15
          obtain ⟨r16, h17, h⟩ := bi h
          have f18 : ∀ ws new s, J0a ws s [1] [List.map AV.p (J2 x1)] → (Jr (AF (J3 p)) J0T ([.data (Ja x0), .p (.i .i64 x1.Change.Page), .fn J0M [] [.ptr 1 0]], ws) 0 new).run s = some ⟨.data (Ja r16), ws ++ [(1, .box (List.map AV.p (J2 x1)))]⟩ := J0v (args' := [.data (Ja x0), .p (.i .i64 x1.Change.Page), .fn J0M [] [.ptr 0 0]]) (bs := [1]) (css := [List.map AV.p (J2 x1)]) (css' := [List.map AV.p (J2 x1)]) rfl rfl rfl (by simp [Jx, Ji]) (J5w p h17) rfl rfl (by simp [Jx, Ji])
          try simp only [Nf, J1] at f18
          obtain rfl := sj h
          try simp only [↓Da, Ua, J0x, J1, Jk, Jh, Jq, Je, J40, *, ↓reduceIte, Nat.reduceEqDiff, Nat.reduceAdd, Nat.reduceLT, Nat.reduceMul]
          rfl
        · try try rw [h4] at h14
          obtain rfl := sj h
          try simp only [↓Da, Ua, J0x, J1, Jk, Jh, Jq, Je, J40, *, ↓reduceIte, Nat.reduceEqDiff, Nat.reduceAdd, Nat.reduceLT, Nat.reduceMul]
          rfl
    · obtain rfl := sj h
      try simp only [↓Da, Ua, J0x, J1, Jk, Jh, Jq, Je, J40, *, ↓reduceIte, Nat.reduceEqDiff, Nat.reduceAdd, Nat.reduceLT, Nat.reduceMul]
      rfl
  · obtain rfl := sj h
    try simp only [↓Da, Ua, J0x, J1, Jk, Jh, Jq, Je, J40, *, ↓reduceIte, Nat.reduceEqDiff, Nat.reduceAdd, Nat.reduceLT, Nat.reduceMul]
    rfl
theorem Jcc {x0 : T_api_Index} {x1 : J6} {o : T_api_Index × Int} (h : J0n x0 x1 = some o) : AF (J3 p) J0X [.data (Ja x0), .data (J2 x1)] [] = J8g o :=
  (J1e (J3 p) (Jcu p) rfl).trans (J9X p h)
theorem J30 {x0 : T_api_Index} {x1 : J6} {o : T_api_Index × Int} (h : J0n x0 x1 = some o) : ∀ ws new st, (Jr (AF (J3 p)) J0X ([.data (Ja x0), .data (J2 x1)], ws) 0 new).run st = some ⟨.tup [.data (Ja o.1), .p (.i .i64 o.2)], ws⟩ := J0b rfl (Jcc p h) rfl
def Jak  (r : Bool) : Option Res := some (.p (.b r), [])
def J3p  : Option (Bool) :=
  Option.bind (J2e 2) fun r1 =>
  Option.bind (J0n r1.1 (⟨9, 7, 0, 0, 0, 5, (⟨1, 0, (⟨false, ([] : List UInt8)⟩ : Jg), (⟨false, ([] : List UInt8)⟩ : Jg)⟩ : Jf), ([] : List UInt8)⟩ : J6)) fun r4 =>
  Option.bind (J0n r4.1 (⟨10, 7, 0, 0, 0, 3, (⟨1, 0, (⟨false, ([] : List UInt8)⟩ : Jg), (⟨false, ([] : List UInt8)⟩ : Jg)⟩ : Jf), ([] : List UInt8)⟩ : J6)) fun r7 =>
  if ((r1.2 : Int) == 0) then
    if ((r4.2 : Int) == 0) then
      if ((r7.2 : Int) == 0) then
        if ((((List.length r7.1.Rows : Nat) : Int) : Int) == 2) then
          Option.bind (idx r7.1.Rows 1) fun y14 =>
          some ((y14.LSN : Int) == 5)
        else
          some false
      else
        some false
    else
      some false
  else
    some false
theorem JbM  {o : Bool} (h : J3p = some o) :
    rk (J3 p) J49 0 [] (X (J3 p) J13 ⟨[], []⟩) = Jak o := by
  unfold J3p at h
  obtain ⟨r1, h2, h⟩ := bi h
  have f3 := Jdb p h2
  try simp only [Nf, J1] at f3
  obtain ⟨r4, h5, h⟩ := bi h
  have f6 := J30 p h5
  try simp only [Nf, J1] at f6
  obtain ⟨r7, h8, h⟩ := bi h
  have f9 := J30 p h8
  try simp only [Nf, J1] at f9
  try simp only [↓Da, Ua, J13, J1, Jk, Jh, Jq, Je, *, ↓reduceIte, Nat.reduceEqDiff, Nat.reduceAdd, Nat.reduceLT, Nat.reduceMul]
  rcases Jd h with ⟨h10, h⟩ | ⟨h10, h⟩
  · have h10n : ((r1.2 : Int) != 0) = false := by rw [bne, h10]; rfl
    try simp only [↓Da, Ua, J13, J1, Jk, Jh, Jq, Je, *, ↓reduceIte, Nat.reduceEqDiff, Nat.reduceAdd, Nat.reduceLT, Nat.reduceMul]
    rcases Jd h with ⟨h11, h⟩ | ⟨h11, h⟩
    · have h11n : ((r4.2 : Int) != 0) = false := by rw [bne, h11]; rfl
      try simp only [↓Da, Ua, J13, J1, Jk, Jh, Jq, Je, *, ↓reduceIte, Nat.reduceEqDiff, Nat.reduceAdd, Nat.reduceLT, Nat.reduceMul]
      rcases Jd h with ⟨h12, h⟩ | ⟨h12, h⟩
      · have h12n : ((r7.2 : Int) != 0) = false := by rw [bne, h12]; rfl
        try simp only [↓Da, Ua, J13, J1, Jk, Jh, Jq, Je, *, ↓reduceIte, Nat.reduceEqDiff, Nat.reduceAdd, Nat.reduceLT, Nat.reduceMul]
        rcases Jd h with ⟨h13, h⟩ | ⟨h13, h⟩
        · have h13n : ((((List.length r7.1.Rows : Nat) : Int) : Int) != 2) = false := by rw [bne, h13]; rfl
          obtain ⟨y14, h15, h⟩ := bi h
          have f16 := J6o (r := J4) h15
          try simp only [Nf, J1] at f16
          obtain rfl := sj h
          try simp only [↓Da, Ua, J13, J1, Jk, Jh, Jq, Je, J5b, *, ↓reduceIte, Nat.reduceEqDiff, Nat.reduceAdd, Nat.reduceLT, Nat.reduceMul]
          rfl
        · have h13n : ((((List.length r7.1.Rows : Nat) : Int) : Int) != 2) = true := by rw [bne, h13]; rfl
          obtain rfl := sj h
          try simp only [↓Da, Ua, J13, J1, Jk, Jh, Jq, Je, J5b, *, ↓reduceIte, Nat.reduceEqDiff, Nat.reduceAdd, Nat.reduceLT, Nat.reduceMul]
          rfl
      · have h12n : ((r7.2 : Int) != 0) = true := by rw [bne, h12]; rfl
        obtain rfl := sj h
        try simp only [↓Da, Ua, J13, J1, Jk, Jh, Jq, Je, J5b, *, ↓reduceIte, Nat.reduceEqDiff, Nat.reduceAdd, Nat.reduceLT, Nat.reduceMul]
        rfl
    · have h11n : ((r4.2 : Int) != 0) = true := by rw [bne, h11]; rfl
      obtain rfl := sj h
      try simp only [↓Da, Ua, J13, J1, Jk, Jh, Jq, Je, J5b, *, ↓reduceIte, Nat.reduceEqDiff, Nat.reduceAdd, Nat.reduceLT, Nat.reduceMul]
      rfl
  · have h10n : ((r1.2 : Int) != 0) = true := by rw [bne, h10]; rfl
    obtain rfl := sj h
    try simp only [↓Da, Ua, J13, J1, Jk, Jh, Jq, Je, J5b, *, ↓reduceIte, Nat.reduceEqDiff, Nat.reduceAdd, Nat.reduceLT, Nat.reduceMul]
    rfl
theorem JeN  {o : Bool} (h : J3p = some o) : AF (J3 p) J4d [] [] = Jak o :=
  (J1e (J3 p) (JeO p) rfl).trans (JbM p h)
theorem JeZ  {o : Bool} (h : J3p = some o) : ∀ ws new st, (Jr (AF (J3 p)) J4d ([], ws) 0 new).run st = some ⟨.p (.b o), ws⟩ := J0b rfl (JeN p h) rfl
def J41  (r : Bool) : Option Res := some (.p (.b r), [])
def J14 (x13 : Int) (x14 : Int) (b1 : T_api_Index) (b3 : J6) (b4 : J6) (b5 : J6) (b6 : J6) : Option (Bool) :=
  Option.bind (J0n b1 b3) fun r1 =>
  Option.bind (J0n r1.1 b4) fun r4 =>
  Option.bind (J0E r4.1 0 x13 x14) fun r7 =>
  Option.bind (J0E b1 0 x13 x14) fun r10 =>
  Option.bind (J0n r10.1 b5) fun r13 =>
  Option.bind (J0n r13.1 b6) fun r16 =>
  if ((r1.2 : Int) == 0) then
    if ((r4.2 : Int) == 0) then
      if ((r7.2 : Int) == 0) then
        if ((r10.2 : Int) == 0) then
          if ((r13.2 : Int) == 0) then
            if ((r16.2 : Int) == 0) then
              Option.bind (J3h r7.1 r16.1) fun r25 =>
              some r25
            else
              some false
          else
            some false
        else
          some false
      else
        some false
    else
      some false
  else
    some false
theorem J5d {x13 : Int} {x14 : Int} {b1 : T_api_Index} {b3 : J6} {b4 : J6} {b5 : J6} {b6 : J6} {B0 : List PV} {B2 : List PV} {o : Bool} (h : J14 x13 x14 b1 b3 b4 b5 b6 = some o) :
    rk (J3 p) J0V 0 [] (X (J3 p) JK ⟨[(6, .ptr 1 0), (11, .ptr 3 0), (12, .ptr 4 0), (13, .p (.i .i64 x13)), (14, .p (.i .i64 x14)), (15, .ptr 5 0), (16, .ptr 6 0)], [.box (List.map AV.p B0), .box (List.map AV.p (Ja b1)), .box (List.map AV.p B2), .box (List.map AV.p (J2 b3)), .box (List.map AV.p (J2 b4)), .box (List.map AV.p (J2 b5)), .box (List.map AV.p (J2 b6))]⟩) = J41 o := by
  unfold J14 at h
  obtain ⟨r1, h2, h⟩ := bi h
  have f3 := J30 p h2
  try simp only [Nf, J1] at f3
  obtain ⟨r4, h5, h⟩ := bi h
  have f6 := J30 p h5
  try simp only [Nf, J1] at f6
  obtain ⟨r7, h8, h⟩ := bi h
  have f9 := J6N p h8
  try simp only [Nf, J1] at f9
  obtain ⟨r10, h11, h⟩ := bi h
  have f12 := J6N p h11
  try simp only [Nf, J1] at f12
  obtain ⟨r13, h14, h⟩ := bi h
  have f15 := J30 p h14
  try simp only [Nf, J1] at f15
  obtain ⟨r16, h17, h⟩ := bi h
  have f18 := J30 p h17
  try simp only [Nf, J1] at f18
  try simp only [↓Da, Ua, JK, J1, Jk, Jh, Jq, Je, *, ↓reduceIte, Nat.reduceEqDiff, Nat.reduceAdd, Nat.reduceLT, Nat.reduceMul]
  rcases Jd h with ⟨h19, h⟩ | ⟨h19, h⟩
  · have h19n : ((r1.2 : Int) != 0) = false := by rw [bne, h19]; rfl
    try simp only [↓Da, Ua, JK, J1, Jk, Jh, Jq, Je, *, ↓reduceIte, Nat.reduceEqDiff, Nat.reduceAdd, Nat.reduceLT, Nat.reduceMul]
    rcases Jd h with ⟨h20, h⟩ | ⟨h20, h⟩
    · have h20n : ((r4.2 : Int) != 0) = false := by rw [bne, h20]; rfl
      try simp only [↓Da, Ua, JK, J1, Jk, Jh, Jq, Je, *, ↓reduceIte, Nat.reduceEqDiff, Nat.reduceAdd, Nat.reduceLT, Nat.reduceMul]
      rcases Jd h with ⟨h21, h⟩ | ⟨h21, h⟩
      · have h21n : ((r7.2 : Int) != 0) = false := by rw [bne, h21]; rfl
        try simp only [↓Da, Ua, JK, J1, Jk, Jh, Jq, Je, *, ↓reduceIte, Nat.reduceEqDiff, Nat.reduceAdd, Nat.reduceLT, Nat.reduceMul]
        rcases Jd h with ⟨h22, h⟩ | ⟨h22, h⟩
        · have h22n : ((r10.2 : Int) != 0) = false := by rw [bne, h22]; rfl
          try simp only [↓Da, Ua, JK, J1, Jk, Jh, Jq, Je, *, ↓reduceIte, Nat.reduceEqDiff, Nat.reduceAdd, Nat.reduceLT, Nat.reduceMul]
          rcases Jd h with ⟨h23, h⟩ | ⟨h23, h⟩
          · have h23n : ((r13.2 : Int) != 0) = false := by rw [bne, h23]; rfl
            try simp only [↓Da, Ua, JK, J1, Jk, Jh, Jq, Je, *, ↓reduceIte, Nat.reduceEqDiff, Nat.reduceAdd, Nat.reduceLT, Nat.reduceMul]
            rcases Jd h with ⟨h24, h⟩ | ⟨h24, h⟩
            · have h24n : ((r16.2 : Int) != 0) = false := by rw [bne, h24]; rfl
              obtain ⟨r25, h26, h⟩ := bi h
              have f27 := Jbe p h26
              try simp only [Nf, J1] at f27
              obtain rfl := sj h
              try simp only [↓Da, Ua, JK, J1, Jk, Jh, Jq, Je, J00, *, ↓reduceIte, Nat.reduceEqDiff, Nat.reduceAdd, Nat.reduceLT, Nat.reduceMul]
              rfl
            · have h24n : ((r16.2 : Int) != 0) = true := by rw [bne, h24]; rfl
              obtain rfl := sj h
              try simp only [↓Da, Ua, JK, J1, Jk, Jh, Jq, Je, J00, *, ↓reduceIte, Nat.reduceEqDiff, Nat.reduceAdd, Nat.reduceLT, Nat.reduceMul]
              rfl
          · have h23n : ((r13.2 : Int) != 0) = true := by rw [bne, h23]; rfl
            obtain rfl := sj h
            try simp only [↓Da, Ua, JK, J1, Jk, Jh, Jq, Je, J00, *, ↓reduceIte, Nat.reduceEqDiff, Nat.reduceAdd, Nat.reduceLT, Nat.reduceMul]
            rfl
        · have h22n : ((r10.2 : Int) != 0) = true := by rw [bne, h22]; rfl
          obtain rfl := sj h
          try simp only [↓Da, Ua, JK, J1, Jk, Jh, Jq, Je, J00, *, ↓reduceIte, Nat.reduceEqDiff, Nat.reduceAdd, Nat.reduceLT, Nat.reduceMul]
          rfl
      · have h21n : ((r7.2 : Int) != 0) = true := by rw [bne, h21]; rfl
        obtain rfl := sj h
        try simp only [↓Da, Ua, JK, J1, Jk, Jh, Jq, Je, J00, *, ↓reduceIte, Nat.reduceEqDiff, Nat.reduceAdd, Nat.reduceLT, Nat.reduceMul]
        rfl
    · have h20n : ((r4.2 : Int) != 0) = true := by rw [bne, h20]; rfl
      obtain rfl := sj h
      try simp only [↓Da, Ua, JK, J1, Jk, Jh, Jq, Je, J00, *, ↓reduceIte, Nat.reduceEqDiff, Nat.reduceAdd, Nat.reduceLT, Nat.reduceMul]
      rfl
  · have h19n : ((r1.2 : Int) != 0) = true := by rw [bne, h19]; rfl
    obtain rfl := sj h
    try simp only [↓Da, Ua, JK, J1, Jk, Jh, Jq, Je, J00, *, ↓reduceIte, Nat.reduceEqDiff, Nat.reduceAdd, Nat.reduceLT, Nat.reduceMul]
    rfl
def J1W (x0 : List Int) (x1 : Bool) : Option (Bool) :=
  Option.bind (J3p) fun r1 =>
  if r1 then
    Option.bind (J4n x0 100) fun r5 =>
    Option.bind (J4e r5) fun r8 =>
    Option.bind (J1U r8.1) fun r11 =>
    Option.bind (J21 r11.1) fun r14 =>
    if ((r11.2 : Int) != 0) then
      some false
    else
      if ((r14.2 : Int) != 0) then
        some false
      else
        Option.bind (J3h r8.1 r14.1) fun r19 =>
        if r19 then
          if ((((List.length r11.1 : Nat) : Int) : Int) != (IntKind.wrap .i64 (2 + (IntKind.wrap .i64 (24 * ((List.length r8.1.Rows : Nat) : Int)))))) then
            some false
          else
            Option.bind (J0z r8.2 80) fun r24 =>
            Option.bind (J0z r24.2 80) fun r27 =>
            Option.bind (J0z r27.2 ((List.length r8.1.Rows : Nat) : Int)) fun r31 =>
            Option.bind (J0z r31.2 9) fun r35 =>
            Option.bind (J0z r35.2 50) fun r38 =>
            if x1 then
              J14 (IntKind.wrap .i64 (1 + r35.1)) r38.1 r8.1 (⟨90, 7, 0, 0, 0, r24.1, (⟨0, 0, (⟨false, ([] : List UInt8)⟩ : Jg), (⟨false, ([] : List UInt8)⟩ : Jg)⟩ : Jf), ([] : List UInt8)⟩ : J6) (⟨91, 7, 0, 0, 0, r27.1, (⟨r31.1, 0, (⟨false, ([] : List UInt8)⟩ : Jg), (⟨false, ([] : List UInt8)⟩ : Jg)⟩ : Jf), ([] : List UInt8)⟩ : J6) (⟨91, 7, 0, 0, 0, r27.1, (⟨r31.1, 0, (⟨false, ([] : List UInt8)⟩ : Jg), (⟨false, ([] : List UInt8)⟩ : Jg)⟩ : Jf), ([] : List UInt8)⟩ : J6) (⟨90, 7, 0, 0, 0, r24.1, (⟨0, 0, (⟨false, ([] : List UInt8)⟩ : Jg), (⟨false, ([] : List UInt8)⟩ : Jg)⟩ : Jf), ([] : List UInt8)⟩ : J6)
            else
              J14 (IntKind.wrap .i64 (1 + r35.1)) r38.1 r8.1 (⟨90, 7, 0, 0, 0, r24.1, (⟨0, 0, (⟨false, ([] : List UInt8)⟩ : Jg), (⟨false, ([] : List UInt8)⟩ : Jg)⟩ : Jf), ([] : List UInt8)⟩ : J6) (⟨91, 7, 0, 0, 0, r27.1, (⟨r31.1, 0, (⟨false, ([] : List UInt8)⟩ : Jg), (⟨false, ([] : List UInt8)⟩ : Jg)⟩ : Jf), ([] : List UInt8)⟩ : J6) (⟨90, 7, 0, 0, 0, r24.1, (⟨0, 0, (⟨false, ([] : List UInt8)⟩ : Jg), (⟨false, ([] : List UInt8)⟩ : Jg)⟩ : Jf), ([] : List UInt8)⟩ : J6) (⟨91, 7, 0, 0, 0, r27.1, (⟨r31.1, 0, (⟨false, ([] : List UInt8)⟩ : Jg), (⟨false, ([] : List UInt8)⟩ : Jg)⟩ : Jf), ([] : List UInt8)⟩ : J6)
        else
          some false
  else
    some false
theorem J74 {x0 : List Int} {x1 : Bool} {o : Bool} (h : J1W x0 x1 = some o) :
    rk (J3 p) J0V 0 [] (X (J3 p) JI ⟨[(0, .p (.sl 1 (List.map (r_i .u8) x0))), (1, .p (.b x1))], []⟩) = J41 o := by
  unfold J1W at h
  obtain ⟨r1, h2, h⟩ := bi h
  have f3 := JeZ p h2
  try simp only [Nf, J1] at f3
  try simp only [↓Da, Ua, Ra, JI, J1, Jk, Jh, Jq, JB, Je, *, ↓reduceIte, Nat.reduceEqDiff, Nat.reduceAdd, Nat.reduceLT, Nat.reduceMul, Nat.reduceBEq]
  rcases Jd h with ⟨h4, h⟩ | ⟨h4, h⟩
  · obtain ⟨r5, h6, h⟩ := bi h
    have f7 : ∀ ws new s, (Jr (AF (J3 p)) J5Q ([.p (.sl 1 (List.map (r_i .u8) x0)), .p (.i .i64 100)], ws) 1 new).run s = some ⟨.ptr new 0, ws ++ [(new, .box (List.map AV.p (J0 r5)))]⟩ := Jhy rfl (JhM p h6) (Ji _)
    try simp only [Nf, J1] at f7
    obtain ⟨r8, h9, h⟩ := bi h
    have f10 : ∀ ws new s, J0a ws s [0] [List.map AV.p (J0 r5)] → (Jr (AF (J3 p)) J4a ([.ptr 0 0], ws) 0 new).run s = some ⟨.data (Ja r8.1), ws ++ [(0, .box (List.map AV.p (J0 r8.2)))]⟩ := J0v (args' := [.ptr 0 0]) (bs := [0]) (css := [List.map AV.p (J0 r5)]) (css' := [List.map AV.p (J0 r8.2)]) rfl rfl rfl (by simp [Jx, Ji]) (JeW p h9) rfl rfl (by simp [Jx, Ji])
    try simp only [Nf, J1] at f10
    obtain ⟨r11, h12, h⟩ := bi h
    have f13 := Jbc p h12
    try simp only [Nf, J1] at f13
    obtain ⟨r14, h15, h⟩ := bi h
    have f16 := Jb5 p h15
    try simp only [Nf, J1] at f16
    try simp only [↓Da, Ua, Ra, JI, J1, Jk, Jh, Jq, JB, Je, *, ↓reduceIte, Nat.reduceEqDiff, Nat.reduceAdd, Nat.reduceLT, Nat.reduceMul, Nat.reduceBEq]
    rcases Jd h with ⟨h17, h⟩ | ⟨h17, h⟩
    · try try rw [h4] at h17
      obtain rfl := sj h
      try simp only [↓Da, Ua, Ra, JI, J1, Jk, Jh, Jq, JB, Je, J00, *, ↓reduceIte, Nat.reduceEqDiff, Nat.reduceAdd, Nat.reduceLT, Nat.reduceMul, Nat.reduceBEq]
      rfl
    · try try rw [h4] at h17
      try simp only [↓Da, Ua, Ra, JI, J1, Jk, Jh, Jq, JB, Je, *, ↓reduceIte, Nat.reduceEqDiff, Nat.reduceAdd, Nat.reduceLT, Nat.reduceMul, Nat.reduceBEq]
      rcases Jd h with ⟨h18, h⟩ | ⟨h18, h⟩
      · try try rw [h4] at h18
        obtain rfl := sj h
        try simp only [↓Da, Ua, Ra, JI, J1, Jk, Jh, Jq, JB, Je, J00, *, ↓reduceIte, Nat.reduceEqDiff, Nat.reduceAdd, Nat.reduceLT, Nat.reduceMul, Nat.reduceBEq]
        rfl
      · try try rw [h4] at h18
        obtain ⟨r19, h20, h⟩ := bi h
        have f21 := Jbe p h20
        try simp only [Nf, J1] at f21
        try simp only [↓Da, Ua, Ra, JI, J1, Jk, Jh, Jq, JB, Je, *, ↓reduceIte, Nat.reduceEqDiff, Nat.reduceAdd, Nat.reduceLT, Nat.reduceMul, Nat.reduceBEq]
        rcases Jd h with ⟨h22, h⟩ | ⟨h22, h⟩
        · try try rw [h4] at h22
          try simp only [↓Da, Ua, Ra, JI, J1, Jk, Jh, Jq, JB, Je, *, ↓reduceIte, Nat.reduceEqDiff, Nat.reduceAdd, Nat.reduceLT, Nat.reduceMul, Nat.reduceBEq]
          rcases Jd h with ⟨h23, h⟩ | ⟨h23, h⟩
          · try try rw [h4] at h23
            obtain rfl := sj h
            try simp only [↓Da, Ua, Ra, JI, J1, Jk, Jh, Jq, JB, Je, J00, *, ↓reduceIte, Nat.reduceEqDiff, Nat.reduceAdd, Nat.reduceLT, Nat.reduceMul, Nat.reduceBEq]
            rfl
          · try try rw [h4] at h23
            obtain ⟨r24, h25, h⟩ := bi h
            have f26 : ∀ ws new s, J0a ws s [0] [List.map AV.p (J0 r8.2)] → (Jr (AF (J3 p)) Jp ([.ptr 0 0, .p (.i .i64 80)], ws) 0 new).run s = some ⟨.p (.i .i64 r24.1), ws ++ [(0, .box (List.map AV.p (J0 r24.2)))]⟩ := J0v (args' := [.ptr 0 0, .p (.i .i64 80)]) (bs := [0]) (css := [List.map AV.p (J0 r8.2)]) (css' := [List.map AV.p (J0 r24.2)]) rfl rfl rfl (by simp [Jx, Ji]) (J10 p h25) rfl rfl (by simp [Jx, Ji])
            try simp only [Nf, J1] at f26
            obtain ⟨r27, h28, h⟩ := bi h
            have f29 : ∀ ws new s, J0a ws s [0] [List.map AV.p (J0 r24.2)] → (Jr (AF (J3 p)) Jp ([.ptr 0 0, .p (.i .i64 80)], ws) 0 new).run s = some ⟨.p (.i .i64 r27.1), ws ++ [(0, .box (List.map AV.p (J0 r27.2)))]⟩ := J0v (args' := [.ptr 0 0, .p (.i .i64 80)]) (bs := [0]) (css := [List.map AV.p (J0 r24.2)]) (css' := [List.map AV.p (J0 r27.2)]) rfl rfl rfl (by simp [Jx, Ji]) (J10 p h28) rfl rfl (by simp [Jx, Ji])
            try simp only [Nf, J1] at f29
            have f30 : ∀ ws k new s, J0a ws s [0] [List.map AV.p (J0 r24.2)] → Jb ((Jr (AF (J3 p)) Jp ([.ptr 0 0, .p (.i .i64 80)], ws) k new).reads s) = [0] ++ ([0] ++ [0]) := J1O (args' := [.ptr 0 0, .p (.i .i64 80)]) (bs := [0]) (css := [List.map AV.p (J0 r24.2)]) rfl rfl rfl (by simp [Jx, Ji])
            try simp only [Nf, J1] at f30
            obtain ⟨r31, h32, h⟩ := bi h
            have f33 : ∀ ws new s, J0a ws s [0] [List.map AV.p (J0 r27.2)] → (Jr (AF (J3 p)) Jp ([.ptr 0 0, .p (.i .i64 ((List.length r8.1.Rows : Nat) : Int))], ws) 0 new).run s = some ⟨.p (.i .i64 r31.1), ws ++ [(0, .box (List.map AV.p (J0 r31.2)))]⟩ := J0v (args' := [.ptr 0 0, .p (.i .i64 ((List.length r8.1.Rows : Nat) : Int))]) (bs := [0]) (css := [List.map AV.p (J0 r27.2)]) (css' := [List.map AV.p (J0 r31.2)]) rfl rfl rfl (by simp [Jx, Ji]) (J10 p h32) rfl rfl (by simp [Jx, Ji])
            try simp only [Nf, J1] at f33
            have f34 : ∀ ws k new s, J0a ws s [0] [List.map AV.p (J0 r27.2)] → Jb ((Jr (AF (J3 p)) Jp ([.ptr 0 0, .p (.i .i64 ((List.length r8.1.Rows : Nat) : Int))], ws) k new).reads s) = [0] ++ ([0] ++ [0]) := J1O (args' := [.ptr 0 0, .p (.i .i64 ((List.length r8.1.Rows : Nat) : Int))]) (bs := [0]) (css := [List.map AV.p (J0 r27.2)]) rfl rfl rfl (by simp [Jx, Ji])
            try simp only [Nf, J1] at f34
            obtain ⟨r35, h36, h⟩ := bi h
            have f37 : ∀ ws new s, J0a ws s [0] [List.map AV.p (J0 r31.2)] → (Jr (AF (J3 p)) Jp ([.ptr 0 0, .p (.i .i64 9)], ws) 0 new).run s = some ⟨.p (.i .i64 r35.1), ws ++ [(0, .box (List.map AV.p (J0 r35.2)))]⟩ := J0v (args' := [.ptr 0 0, .p (.i .i64 9)]) (bs := [0]) (css := [List.map AV.p (J0 r31.2)]) (css' := [List.map AV.p (J0 r35.2)]) rfl rfl rfl (by simp [Jx, Ji]) (J10 p h36) rfl rfl (by simp [Jx, Ji])
            try simp only [Nf, J1] at f37
            obtain ⟨r38, h39, h⟩ := bi h
            have f40 : ∀ ws new s, J0a ws s [0] [List.map AV.p (J0 r35.2)] → (Jr (AF (J3 p)) Jp ([.ptr 0 0, .p (.i .i64 50)], ws) 0 new).run s = some ⟨.p (.i .i64 r38.1), ws ++ [(0, .box (List.map AV.p (J0 r38.2)))]⟩ := J0v (args' := [.ptr 0 0, .p (.i .i64 50)]) (bs := [0]) (css := [List.map AV.p (J0 r35.2)]) (css' := [List.map AV.p (J0 r38.2)]) rfl rfl rfl (by simp [Jx, Ji]) (J10 p h39) rfl rfl (by simp [Jx, Ji])
            try simp only [Nf, J1] at f40
            try simp only [↓Da, Ua, Ra, JI, J1, Jk, Jh, Jq, JB, Je, *, ↓reduceIte, Nat.reduceEqDiff, Nat.reduceAdd, Nat.reduceLT, Nat.reduceMul, Nat.reduceBEq]
            rcases Jd h with ⟨h41, h⟩ | ⟨h41, h⟩
            · try simp only [↓Da, Ua, Ra, JI, J1, Jk, Jh, Jq, JB, Je, *, ↓reduceIte, Nat.reduceEqDiff, Nat.reduceAdd, Nat.reduceLT, Nat.reduceMul, Nat.reduceBEq]
              have e0 := J5d p (B0 := (J0 r38.2)) (B2 := (Ja r14.1)) h
              exact e0
            · try simp only [↓Da, Ua, Ra, JI, J1, Jk, Jh, Jq, JB, Je, *, ↓reduceIte, Nat.reduceEqDiff, Nat.reduceAdd, Nat.reduceLT, Nat.reduceMul, Nat.reduceBEq]
              have e0 := J5d p (B0 := (J0 r38.2)) (B2 := (Ja r14.1)) h
              exact e0
        · try try rw [h4] at h22
          obtain rfl := sj h
          try simp only [↓Da, Ua, Ra, JI, J1, Jk, Jh, Jq, JB, Je, J00, *, ↓reduceIte, Nat.reduceEqDiff, Nat.reduceAdd, Nat.reduceLT, Nat.reduceMul, Nat.reduceBEq]
          rfl
  · obtain rfl := sj h
    try simp only [↓Da, Ua, Ra, JI, J1, Jk, Jh, Jq, JB, Je, J00, *, ↓reduceIte, Nat.reduceEqDiff, Nat.reduceAdd, Nat.reduceLT, Nat.reduceMul, Nat.reduceBEq]
    rfl
theorem J81 {x0 : List Int} {x1 : Bool} {o : Bool} (h : J1W x0 x1 = some o) : AF (J3 p) J2J [.p (.sl 1 (List.map (r_i .u8) x0)), .p (.b x1)] [] = J41 o :=
  (J1e (J3 p) (J86 p) rfl).trans (J74 p h)
end
end Go.Am
end
section
end
section
namespace Go.Am
theorem J2X {n : Int} (h1 : -9223372036854775808 ≤ n) (h2 : n ≤ 9223372036854775807) : IntKind.i64.wrap n = n := by
  simp [IntKind.wrap_i64]; omega
theorem Jbk {n : Int} (h1 : 0 ≤ n) (h2 : n < 18446744073709551616) : IntKind.u64.wrap n = n := by
  rw [show IntKind.u64.wrap n = n % 18446744073709551616 by simp [IntKind.wrap, IntKind.bits, IntKind.signed]]; omega
theorem Jea {α : Type} (l : List α) (k : Nat) : idx l (k : Int) = l[k]? := by simp [idx]
theorem J88 {k : Nat} (h : k < 1000000) : IntKind.i64.wrap ((k : Int) + 1) = ((k + 1 : Nat) : Int) := by
  rw [J2X (by omega) (by omega)]; simp
theorem J7f {σ ρ : Type} {f : σ → Option (σ ⊕ ρ)} (I : σ → Prop) (m : σ → Nat) (Q : ρ → Prop)
    (h : ∀ s, I s → (∃ s', f s = some (.inl s') ∧ I s' ∧ m s' < m s) ∨ (∃ r, f s = some (.inr r) ∧ Q r)) : ∀ s, I s → ∃ r, J1u f s = some r ∧ Q r := by
  have key : ∀ n s, m s ≤ n → I s → ∃ r, J1u f s = some r ∧ Q r := by
    intro n
    induction n with
    | zero =>
      intro s hm hs
      rcases h s hs with ⟨s', e, hs', hlt⟩ | ⟨r, e, hq⟩
      · omega
      · exact ⟨r, J9W e, hq⟩
    | succ n ih =>
      intro s hm hs
      rcases h s hs with ⟨s', e, hs', hlt⟩ | ⟨r, e, hq⟩
      · obtain ⟨r, hr, hq⟩ := ih s' (by omega) hs'
        exact ⟨r, (Jdq e).trans hr, hq⟩
      · exact ⟨r, J9W e, hq⟩
  exact fun s hs => key (m s) s (Nat.le_refl _) hs
structure J5k (b : T_pagemenddraw_Codes) : Prop where
  at0 : 0 ≤ b.at_
  at1 : b.at_ ≤ b.l_.length
  len : b.l_.length ≤ 1000
  byte : ∀ x ∈ b.l_, 0 ≤ x ∧ x ≤ 255
theorem JhE {b : T_pagemenddraw_Codes} (hb : J5k b) {n : Int} (h1 : 1 ≤ n) (h2 : n ≤ 256) (m : Nat) : ∃ r b', J2U (m + 1) b n = some (r, b') ∧ J5k b' ∧ 0 ≤ r ∧ r < n := by
  obtain ⟨ha, hb1, hl, hx⟩ := hb
  simp only [J2U, J42]
  by_cases hc : b.at_ ≥ (b.l_.length : Int)
  · exact ⟨0, b, by simp [hc], ⟨ha, hb1, hl, hx⟩, by omega, by omega⟩
  · obtain ⟨k, hk⟩ : ∃ k : Nat, b.at_ = (k : Int) := ⟨b.at_.toNat, by omega⟩
    have hk2 : k < b.l_.length := by omega
    have hy := hx _ (List.getElem_mem hk2)
    have e1 : ¬ n < 1 := by omega
    have e2 : ¬ n > 256 := by omega
    have e3 : idx b.l_ b.at_ = some b.l_[k] := by rw [hk, Jea, List.getElem?_eq_getElem hk2]
    have e4 : ¬ n = 0 := by omega
    refine ⟨(b.l_[k]).tmod n, ⟨b.l_, b.at_ + 1⟩, ?_, ⟨by show 0 ≤ b.at_ + 1; omega, by show b.at_ + 1 ≤ (b.l_.length : Int); omega, hl, hx⟩, Int.tmod_nonneg _ hy.1, Int.tmod_lt_of_pos _ (by omega)⟩
    simp only [hc, decide_false, e1, e2, e3, Option.bind_some, JfM, e4, if_false, Bool.false_eq_true]
    rw [J2X (by omega) (by omega), J2X (by omega) (by omega)]
theorem J5i {b : T_pagemenddraw_Codes} (hb : J5k b) {n : Int} (h1 : 1 ≤ n) (h2 : n ≤ 256) : ∃ r b', J0z b n = some (r, b') ∧ J5k b' ∧ 0 ≤ r ∧ r < n := JhE hb h1 h2 11
theorem Jmp {l : List Int} (h : ∀ x ∈ l, 0 ≤ x ∧ x ≤ 255) {n : Nat} (hn : n ≤ 1000) : ∃ b, J4n l (n : Int) = some b ∧ J5k b := by
  unfold J4n J5x
  by_cases hc : (l.length : Int) > n
  · have : Jg3 l none (some (n : Int)) = some (l.take n) := by
      have e1 : (0 : Int) ≤ n ∧ n ≤ l.length := by omega
      have e2 : n ≤ l.length := by omega
      simp [Jg3, Jha, Je3, e2]
    refine ⟨⟨l.take n, 0⟩, by simp [hc, this], ⟨by show (0 : Int) ≤ 0; omega, by show (0 : Int) ≤ _; omega, by simp; omega, fun x hx => h x (List.mem_of_mem_take hx)⟩⟩
  · exact ⟨⟨l, 0⟩, by simp [hc], ⟨by show (0 : Int) ≤ 0; omega, by show (0 : Int) ≤ _; omega, by show l.length ≤ 1000; omega, h⟩⟩
end Go.Am
end
section
namespace Go.Am
theorem JkP {l : List UInt8} {k : Nat} (h : k < l.length) : JdJ l (k : Int) = some ((l[k]).toNat : Int) := by
  have e : (0 : Int) ≤ k := by omega
  simp [JdJ, e, h]
end Go.Am
end
section
namespace Go.Am
theorem Jbn (l : List UInt8) (n : Int) {k : Nat} (h1 : 1 ≤ k) (h8 : k ≤ 8) (hl : l.length ≤ 1000000) : J2l l n (k : Int) = some (l ++ J0Z n k) := by
  have e1 : ¬ ((k : Int) < 1 ∨ 8 < (k : Int)) := by omega
  have e2 : l.length + 8 ≤ 140737488355328 := by omega
  show Je5 l n k = _
  rw [Je5, if_neg e1, if_pos e2]
  simp
def P32 : Nat := 2197175160
def sl (b : Nat) : Nat := if b = 1 then P32 else 0
end Go.Am
end
section
namespace Go.Am
end Go.Am
end
section
namespace Go.Am
def blk : List UInt8 := List.replicate 256 0
end Go.Am
end
section
namespace Go.Am
theorem JmA {x b j : Nat} (hj : j ≤ 7) (hx : x < 2 ^ (8 * j)) (hb : b < 256) :
    orI .u64 (x : Int) (IntKind.wrap .u64 (((b : Nat) : Int) * 2 ^ (8 * j))) = ((x + b * 2 ^ (8 * j) : Nat) : Int) := by
  have p1 : (2 : Nat) ^ (8 * j) * 256 ≤ 2 ^ 64 := by
    rw [show (256 : Nat) = 2 ^ 8 by rfl, ← Nat.pow_add]
    exact Nat.pow_le_pow_right (by omega) (by omega)
  have p2 : b * 2 ^ (8 * j) + 2 ^ (8 * j) ≤ 2 ^ 64 := by
    have : (b + 1) * 2 ^ (8 * j) ≤ 256 * 2 ^ (8 * j) := Nat.mul_le_mul_right _ (by omega)
    rw [Nat.add_mul, Nat.one_mul] at this
    omega
  have w : IntKind.wrap .u64 (((b : Nat) : Int) * 2 ^ (8 * j)) = ((b * 2 ^ (8 * j) : Nat) : Int) := by
    have e : (((b : Nat) : Int) * 2 ^ (8 * j)) = ((b * 2 ^ (8 * j) : Nat) : Int) := by simp
    rw [e, Jbk (by omega) (by omega)]
  rw [w]
  have e1 : ∀ y : Nat, y < 2 ^ 64 → (BitVec.ofInt 64 (y : Int)).toNat = y := by
    intro y hy
    rw [BitVec.toNat_ofInt]
    omega
  show IntKind.wrap .u64 (((BitVec.ofInt 64 (x : Int) ||| BitVec.ofInt 64 ((b * 2 ^ (8 * j) : Nat) : Int)).toNat : Nat) : Int) = _
  rw [BitVec.toNat_or, e1 x (by omega), e1 _ (by omega)]
  have e2 : x ||| b * 2 ^ (8 * j) = x + b * 2 ^ (8 * j) := by
    rw [Nat.or_comm, Nat.mul_comm b, ← Nat.two_pow_add_eq_or_of_lt hx, Nat.add_comm]
  rw [e2, Jbk (by omega) (by omega)]
theorem JhP {n i : Nat} (hn : n < 2 ^ 64) : J4N (n : Int) i = ((n / 2 ^ (8 * i) % 256 : Nat) : Int) := by
  show ((IntKind.wrap .u64 (n : Int)).fdiv (2 ^ (8 * i))) % 256 = _
  rw [Int.fdiv_eq_ediv_of_nonneg _ (Int.le_of_lt (Int.pow_pos (by decide))), Jbk (by omega) (by omega)]
  simp
theorem Jjo {n : Int} {k i : Nat} (h : i < k) : (J0Z n k)[i]? = some (UInt8.ofNat (J4N n i).toNat) := by
  simp [J0Z, toStr, h]
theorem Jl0 (pre post : List UInt8) {n k : Nat} (h1 : 1 ≤ k) (h8 : k ≤ 8) (hn : n < 2 ^ (8 * k)) (hn2 : n < 2 ^ 63) (hl : (pre ++ (J0Z n k ++ post)).length ≤ 1000) :
    J1M (pre ++ (J0Z n k ++ post)) (pre.length : Int) (k : Int) = some ((n : Int), 0) := by
  generalize hs : pre ++ (J0Z n k ++ post) = s at hl
  have hlen : pre.length + k ≤ s.length := by rw [← hs]; simp [J1I]
  have c1 : ¬ ((k : Int) < 1) := by omega
  have c2 : ¬ ((k : Int) > 8) := by omega
  have c3 : ¬ ((pre.length : Int) < 0) := by omega
  have c4 : ¬ ((pre.length : Int) > (s.length : Int)) := by omega
  have e0 : IntKind.wrap .i64 ((s.length : Int) - pre.length) = (s.length : Int) - pre.length := J2X (by omega) (by omega)
  have c5 : ¬ ((s.length : Int) - pre.length < k) := by omega
  unfold J1M
  simp only [c1, c2, c3, c4, c5, e0, decide_false, Bool.false_eq_true, if_false]
  have key : ∀ (m j : Nat), j + m = k → J1u (fun q : Int × Int => J3u s pre.length k q.1 q.2) (((n % 2 ^ (8 * j) : Nat) : Int), (j : Int)) = some ((n : Int), 0) := by
    intro m
    induction m with
    | zero =>
      intro j hj
      obtain rfl : j = k := by omega
      have e1 : ¬ ((j : Nat) : Int) < (j : Int) := by omega
      refine J9W ?_
      simp only [J3u, e1, decide_false, Bool.false_eq_true, if_false, J6d, Option.map_some, Nat.mod_eq_of_lt hn]
      rw [J2X (by omega) (by omega)]
    | succ m ih =>
      intro j hj
      have e1 : ((j : Nat) : Int) < (k : Int) := by omega
      have e2 : IntKind.wrap .i64 ((pre.length : Int) + (j : Int)) = ((pre.length + j : Nat) : Int) := by rw [J2X (by omega) (by omega)]; omega
      have e3 : IntKind.wrap .i64 (8 * (j : Int)) = ((8 * j : Nat) : Int) := by rw [J2X (by omega) (by omega)]; omega
      have hb : (s[pre.length + j]'(by omega)).toNat = n / 2 ^ (8 * j) % 256 := by
        have h5 : s[pre.length + j]? = some (UInt8.ofNat (J4N (n : Int) j).toNat) := by
          rw [← hs, List.getElem?_append_right (by omega), Nat.add_sub_cancel_left, List.getElem?_append_left (by rw [J1I]; omega), Jjo (by omega)]
        rw [List.getElem?_eq_getElem (by omega)] at h5
        injection h5 with h5
        have h6 := Jd3 (n : Int) j
        rw [← h5, JhP (by omega)] at h6
        omega
      have hb2 : n / 2 ^ (8 * j) % 256 < 256 := Nat.mod_lt _ (by omega)
      have e4 : JfC .u64 (IntKind.wrap .u64 (((s[pre.length + j]'(by omega)).toNat : Nat) : Int)) ((8 * j : Nat) : Int) = some (IntKind.wrap .u64 (((n / 2 ^ (8 * j) % 256 : Nat) : Int) * 2 ^ (8 * j))) := by
        rw [hb, Jbk (by omega) (by omega)]
        simp only [JfC]
        rw [if_neg (by omega)]
        have : min (((8 * j : Nat) : Int)).toNat IntKind.u64.bits = 8 * j := by
          simp only [Int.toNat_natCast]
          exact Nat.min_eq_left (by show 8 * j ≤ 64; omega)
        rw [this]
      have e5 := JmA (x := n % 2 ^ (8 * j)) (b := n / 2 ^ (8 * j) % 256) (j := j) (by omega) (Nat.mod_lt _ (Nat.two_pow_pos _)) hb2
      have e6 : n % 2 ^ (8 * j) + n / 2 ^ (8 * j) % 256 * 2 ^ (8 * j) = n % 2 ^ (8 * (j + 1)) := by
        rw [Nat.mul_add, Nat.pow_add, Nat.mod_mul, Nat.mul_comm (n / 2 ^ (8 * j) % 256)]
      rw [e6] at e5
      refine (Jdq (s' := (((n % 2 ^ (8 * (j + 1)) : Nat) : Int), ((j + 1 : Nat) : Int))) ?_).trans (ih (j + 1) (by omega))
      simp only [J3u, e1, decide_true, if_true, e2, JkP (show pre.length + j < s.length by omega), Option.bind_some, e3, e4, e5, J88 (show j < 1000000 by omega)]
  have h0 := key k 0 (by omega)
  simp only [Nat.mul_zero, Nat.pow_zero, Nat.mod_one] at h0
  exact h0
end Go.Am
end
section
namespace Go.Am
end Go.Am
end
section
namespace Go.Am
end Go.Am
end
section
namespace Go.Am
end Go.Am
end
section
namespace Go.Am
end Go.Am
end
section
namespace Go.Am
end Go.Am
end
section
namespace Go.Am
end Go.Am
end
