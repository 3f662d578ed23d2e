/-
  Parts of a proof: YtiallbcnaadmoaaKS4, YtiallbcnaadmoaaKS5, YtiallbcnaadmoaaKS6, YtiallbcnaadmoaaKSz, YtiallbcnaadmoaaPlain, YtiallbcnaadmoaaPlain2.
-/
import Derived.Test.YtiallbcnaadmoaaM8
set_option linter.unusedSimpArgs false
set_option linter.unusedVariables false
section
namespace Go.Am
set_option maxRecDepth 8000
set_option maxHeartbeats 4000000
set_option linter.unusedSimpArgs false
set_option linter.unusedVariables false
noncomputable section
variable (p : FuncId → Option (List AV → List Blk → Option Res))
def J7o  (r : Bool) : Option Res := some (.p (.b r), [])
def Jkv (b0 : T_api_Page) (o : (Int) ⊕ (Bool)) : Option Res := match o with
  | .inl s => rk (J1 p) J2D 0 [.bl 0, .sq (.keep [] J4v)] (X (J1 p) (.lp 1 [1, 3] J0Y) ⟨[(1, .ptr 0 0), (3, .p (.i .i64 s))], [.box (List.map AV.p (J4 b0))]⟩)
  | .inr o => J7o o
def J9n  : Option (Bool) :=
  some true
theorem JkP {B0 : List PV} {o : Bool} (h : J9n = some o) :
    rk (J1 p) J2D 0 [] (X (J1 p) J4v ⟨[], [.box (List.map AV.p B0)]⟩) = J7o o := by
  unfold J9n at h
  obtain rfl := sj h
  try simp only [↓Da, Ua, J4v, JbW, ↓reduceIte, Nat.reduceEqDiff, Nat.reduceAdd, Nat.reduceLT, Nat.reduceMul]
  rfl
def J1Z (b0 : T_api_Page) (x3 : Int) : Option (((Int) ⊕ (Bool))) :=
  if (decide (x3 < 16)) then
    Option.bind (inb 16 x3) fun u2 =>
    Option.bind (J6Z b0.Cells x3) fun y5 =>
    Option.bind (J0P y5) fun r8 =>
    if r8 then
      if ((b0.LSN : Int) == 0) then
        if y5.Set then
          some (.inr false)
        else
          some (.inl (IntKind.wrap .i64 (x3 + 1)))
      else
        some (.inl (IntKind.wrap .i64 (x3 + 1)))
    else
      some (.inr false)
  else
    Option.map (fun o => .inr o) (J9n)
theorem JdE {b0 : T_api_Page} {x3 : Int} {o : ((Int) ⊕ (Bool))} (h : J1Z b0 x3 = some o) :
    rk (J1 p) J2D 0 [.lo 1 [1, 3] J0Y, .bl 0, .sq (.keep [] J4v)] (X (J1 p) J0Y ⟨[(1, .ptr 0 0), (3, .p (.i .i64 x3))], [.box (List.map AV.p (J4 b0))]⟩) = (Jkv p b0) o := by
  unfold J1Z at h
  rcases J9 h with ⟨h1, h⟩ | ⟨h1, h⟩
  · obtain ⟨u2, h3, h⟩ := bi h
    have f4 : (0 ≤ (x3 : Int) ∧ (x3 : Int) < ((16 : Nat) : Int)) = True := eq_true (J8h h3)
    obtain ⟨y5, h6, h⟩ := bi h
    have f7 : sub (J4 b0) (2 + Int.toNat x3 * 2) 2 = some (Jh y5) := by
      have e0 := (J6z (J1v b0) (J7y (v := b0.Cells) JI (J3a h6).2))
      exact e0
    try simp only [Nf] at f7
    obtain ⟨r8, h9, h⟩ := bi h
    have f10 := Jib p h9
    try simp only [Nf] at f10
    try simp only [↓Da, Ua, J0Y, J3, J2, J6, *, ↓reduceIte, Nat.reduceEqDiff, Nat.reduceAdd, Nat.reduceLT, Nat.reduceMul]
    rcases J9 h with ⟨h11, h⟩ | ⟨h11, h⟩
    · try simp only [↓Da, Ua, J0Y, J3, J2, J6, *, ↓reduceIte, Nat.reduceEqDiff, Nat.reduceAdd, Nat.reduceLT, Nat.reduceMul]
      rcases J9 h with ⟨h12, h⟩ | ⟨h12, h⟩
      · have h12n : ((b0.LSN : Int) != 0) = false := by rw [bne, h12]; rfl
        have f13 : sub (J4 b0) (2 + Int.toNat x3 * 2) 1 = some (r_b y5.Set) := by
          have e0 := (J6z (J6z (J1v b0) (J7y (v := b0.Cells) JI (J3a h6).2)) (JaK y5))
          exact e0
        try simp only [Nf] at f13
        try simp only [↓Da, Ua, J0Y, J3, J2, J6, *, ↓reduceIte, Nat.reduceEqDiff, Nat.reduceAdd, Nat.reduceLT, Nat.reduceMul]
        rcases J9 h with ⟨h14, h⟩ | ⟨h14, h⟩
        · obtain rfl := sj h
          try simp only [↓Da, Ua, J0Y, J3, J2, J6, JbW, *, ↓reduceIte, Nat.reduceEqDiff, Nat.reduceAdd, Nat.reduceLT, Nat.reduceMul]
          rfl
        · obtain rfl := sj h
          try simp only [↓Da, Ua, J0Y, J3, J2, J6, *, ↓reduceIte, Nat.reduceEqDiff, Nat.reduceAdd, Nat.reduceLT, Nat.reduceMul]
          rfl
      · have h12n : ((b0.LSN : Int) != 0) = true := by rw [bne, h12]; rfl
        obtain rfl := sj h
        try simp only [↓Da, Ua, J0Y, J3, J2, J6, *, ↓reduceIte, Nat.reduceEqDiff, Nat.reduceAdd, Nat.reduceLT, Nat.reduceMul]
        rfl
    · obtain rfl := sj h
      try simp only [↓Da, Ua, J0Y, J3, J2, J6, JbW, *, ↓reduceIte, Nat.reduceEqDiff, Nat.reduceAdd, Nat.reduceLT, Nat.reduceMul]
      rfl
  · obtain ⟨o', h', rfl⟩ := mi h
    try simp only [↓Da, Ua, J0Y, J3, J2, J6, *, ↓reduceIte, Nat.reduceEqDiff, Nat.reduceAdd, Nat.reduceLT, Nat.reduceMul]
    have e0 := JkP p (B0 := (J4 b0)) h'
    exact e0
def JdA (b0 : T_api_Page) (s : Int) : Option (Bool) :=
  JK (fun s => J1Z b0 s) s
theorem JhD {b0 : T_api_Page} {s : Int} {o : Bool} (h : JdA b0 s = some o) :
    rk (J1 p) J2D 0 [.bl 0, .sq (.keep [] J4v)] (X (J1 p) (.lp 1 [1, 3] J0Y) ⟨[(1, .ptr 0 0), (3, .p (.i .i64 s))], [.box (List.map AV.p (J4 b0))]⟩) = J7o o := by
  have h0 : JK (fun s => J1Z b0 s) s = some o := h
  exact J10 (P := fun (s : Int) (o : Bool) => rk (J1 p) J2D 0 [.bl 0, .sq (.keep [] J4v)] (X (J1 p) (.lp 1 [1, 3] J0Y) ⟨[(1, .ptr 0 0), (3, .p (.i .i64 s))], [.box (List.map AV.p (J4 b0))]⟩) = J7o o) (fun s r hs => by rw [J0Z]; exact JdE p hs) (fun s s1 r hs ih => by rw [J0Z]; exact (JdE p hs).trans ih) h0
def J64 (x0 : T_api_Page) : Option (Bool) :=
  JdA x0 0
theorem JhV {x0 : T_api_Page} {o : Bool} (h : J64 x0 = some o) :
    rk (J1 p) J2D 0 [] (X (J1 p) J8J ⟨[(0, .data (J4 x0))], []⟩) = J7o o := by
  unfold J64 at h
  try simp only [↓Da, Ua, J8J, J3, J2, J6, ↓reduceIte, Nat.reduceEqDiff, Nat.reduceAdd, Nat.reduceLT, Nat.reduceMul]
  have e0 := JhD p h
  exact e0
theorem JmY {x0 : T_api_Page} {o : Bool} (h : J64 x0 = some o) : AF (J1 p) J7b [.data (J4 x0)] [] = J7o o :=
  (J0j (J1 p) (Jmt p) rfl).trans (JhV p h)
theorem JmX {x0 : T_api_Page} {o : Bool} (h : J64 x0 = some o) : ∀ ws new st, (Jq (AF (J1 p)) J7b ([.data (J4 x0)], ws) 0 new).run st = some ⟨.p (.b o), ws⟩ := Jz rfl (JmY p h) rfl
def Jb8  (r : Bool) : Option Res := some (.p (.b r), [])
def J1u (x0 : T_api_Row) : Option (Bool) :=
  Option.bind (J0M x0.LSN) fun r1 =>
  if r1 then
    Option.bind (J0M x0.Image) fun r5 =>
    if r5 then
      Option.bind (J0M x0.ImageLSN) fun r9 =>
      if r9 then
        if ((x0.Image : Int) == 0) then
          some ((x0.ImageLSN : Int) != 0)
        else
          some false
      else
        some true
    else
      some true
  else
    some true
theorem JcR {x0 : T_api_Row} {o : Bool} (h : J1u x0 = some o) :
    rk (J1 p) J3i 0 [] (X (J1 p) J0w ⟨[(0, .data (Je x0))], []⟩) = Jb8 o := by
  unfold J1u at h
  obtain ⟨r1, h2, h⟩ := bi h
  have f3 := J8C p h2
  try simp only [Nf] at f3
  try simp only [↓Da, Ua, J0w, Jk, *, ↓reduceIte, Nat.reduceEqDiff, Nat.reduceAdd, Nat.reduceLT, Nat.reduceMul]
  rcases J9 h with ⟨h4, h⟩ | ⟨h4, h⟩
  · obtain ⟨r5, h6, h⟩ := bi h
    have f7 := J8C p h6
    try simp only [Nf] at f7
    try simp only [↓Da, Ua, J0w, Jk, *, ↓reduceIte, Nat.reduceEqDiff, Nat.reduceAdd, Nat.reduceLT, Nat.reduceMul]
    rcases J9 h with ⟨h8, h⟩ | ⟨h8, h⟩
    · obtain ⟨r9, h10, h⟩ := bi h
      have f11 := J8C p h10
      try simp only [Nf] at f11
      try simp only [↓Da, Ua, J0w, Jk, *, ↓reduceIte, Nat.reduceEqDiff, Nat.reduceAdd, Nat.reduceLT, Nat.reduceMul]
      rcases J9 h with ⟨h12, h⟩ | ⟨h12, h⟩
      · try simp only [↓Da, Ua, J0w, Jk, *, ↓reduceIte, Nat.reduceEqDiff, Nat.reduceAdd, Nat.reduceLT, Nat.reduceMul]
        rcases J9 h with ⟨h13, h⟩ | ⟨h13, h⟩
        · have h13n : ((x0.Image : Int) != 0) = false := by rw [bne, h13]; rfl
          obtain rfl := sj h
          try simp only [↓Da, Ua, J0w, Jk, J4w, *, ↓reduceIte, Nat.reduceEqDiff, Nat.reduceAdd, Nat.reduceLT, Nat.reduceMul]
          rfl
        · have h13n : ((x0.Image : Int) != 0) = true := by rw [bne, h13]; rfl
          obtain rfl := sj h
          try simp only [↓Da, Ua, J0w, Jk, J4w, *, ↓reduceIte, Nat.reduceEqDiff, Nat.reduceAdd, Nat.reduceLT, Nat.reduceMul]
          rfl
      · obtain rfl := sj h
        try simp only [↓Da, Ua, J0w, Jk, J4w, *, ↓reduceIte, Nat.reduceEqDiff, Nat.reduceAdd, Nat.reduceLT, Nat.reduceMul]
        rfl
    · obtain rfl := sj h
      try simp only [↓Da, Ua, J0w, Jk, J4w, *, ↓reduceIte, Nat.reduceEqDiff, Nat.reduceAdd, Nat.reduceLT, Nat.reduceMul]
      rfl
  · obtain rfl := sj h
    try simp only [↓Da, Ua, J0w, Jk, J4w, *, ↓reduceIte, Nat.reduceEqDiff, Nat.reduceAdd, Nat.reduceLT, Nat.reduceMul]
    rfl
theorem Jfe {x0 : T_api_Row} {o : Bool} (h : J1u x0 = some o) : AF (J1 p) J01 [.data (Je x0)] [] = Jb8 o :=
  (J0j (J1 p) (JeQ p) rfl).trans (JcR p h)
theorem JeM {x0 : T_api_Row} {o : Bool} (h : J1u x0 = some o) : ∀ ws new st, (Jq (AF (J1 p)) J01 ([.data (Je x0)], ws) 0 new).run st = some ⟨.p (.b o), ws⟩ := Jz rfl (Jfe p h) rfl
def Jef  (r : Bool) : Option Res := some (.p (.b r), [])
def J6I (x0 : Js) : Option (Bool) :=
  Option.bind (J8d x0.Page) fun r1 =>
  if r1 then
    if (decide (x0.Slot ≥ 0)) then
      if (decide (x0.Slot < 16)) then
        Option.bind (J4n x0.Before) fun r7 =>
        if r7 then
          Option.bind (J4n x0.After) fun r11 =>
          some r11
        else
          some false
      else
        some false
    else
      some false
  else
    some false
theorem JgY {x0 : Js} {o : Bool} (h : J6I x0 = some o) :
    rk (J1 p) J6K 0 [] (X (J1 p) J1A ⟨[(0, .data (Jf x0))], []⟩) = Jef o := by
  unfold J6I at h
  obtain ⟨r1, h2, h⟩ := bi h
  have f3 := Jlj p h2
  try simp only [Nf] at f3
  try simp only [↓Da, Ua, J1A, J3, JL, *, ↓reduceIte, Nat.reduceEqDiff, Nat.reduceAdd, Nat.reduceLT, Nat.reduceMul]
  rcases J9 h with ⟨h4, h⟩ | ⟨h4, h⟩
  · try simp only [↓Da, Ua, J1A, J3, JL, *, ↓reduceIte, Nat.reduceEqDiff, Nat.reduceAdd, Nat.reduceLT, Nat.reduceMul]
    rcases J9 h with ⟨h5, h⟩ | ⟨h5, h⟩
    · try simp only [↓Da, Ua, J1A, J3, JL, *, ↓reduceIte, Nat.reduceEqDiff, Nat.reduceAdd, Nat.reduceLT, Nat.reduceMul]
      rcases J9 h with ⟨h6, h⟩ | ⟨h6, h⟩
      · obtain ⟨r7, h8, h⟩ := bi h
        have f9 := JbQ p h8
        try simp only [Nf] at f9
        try simp only [↓Da, Ua, J1A, J3, JL, *, ↓reduceIte, Nat.reduceEqDiff, Nat.reduceAdd, Nat.reduceLT, Nat.reduceMul]
        rcases J9 h with ⟨h10, h⟩ | ⟨h10, h⟩
        · obtain ⟨r11, h12, h⟩ := bi h
          have f13 := JbQ p h12
          try simp only [Nf] at f13
          obtain rfl := sj h
          try simp only [↓Da, Ua, J1A, J3, JL, J8e, *, ↓reduceIte, Nat.reduceEqDiff, Nat.reduceAdd, Nat.reduceLT, Nat.reduceMul]
          rfl
        · obtain rfl := sj h
          try simp only [↓Da, Ua, J1A, J3, JL, J8e, *, ↓reduceIte, Nat.reduceEqDiff, Nat.reduceAdd, Nat.reduceLT, Nat.reduceMul]
          rfl
      · obtain rfl := sj h
        try simp only [↓Da, Ua, J1A, J3, JL, J8e, *, ↓reduceIte, Nat.reduceEqDiff, Nat.reduceAdd, Nat.reduceLT, Nat.reduceMul]
        rfl
    · obtain rfl := sj h
      try simp only [↓Da, Ua, J1A, J3, JL, J8e, *, ↓reduceIte, Nat.reduceEqDiff, Nat.reduceAdd, Nat.reduceLT, Nat.reduceMul]
      rfl
  · obtain rfl := sj h
    try simp only [↓Da, Ua, J1A, J3, JL, J8e, *, ↓reduceIte, Nat.reduceEqDiff, Nat.reduceAdd, Nat.reduceLT, Nat.reduceMul]
    rfl
theorem Jl0 {x0 : Js} {o : Bool} (h : J6I x0 = some o) : AF (J1 p) J0I [.data (Jf x0)] [] = Jef o :=
  (J0j (J1 p) (JkT p) rfl).trans (JgY p h)
theorem Jec {x0 : Js} {o : Bool} (h : J6I x0 = some o) : ∀ ws new st, (Jq (AF (J1 p)) J0I ([.data (Jf x0)], ws) 0 new).run st = some ⟨.p (.b o), ws⟩ := Jz rfl (Jl0 p h) rfl
def J7g  (r : (List UInt8) × Int) : Option Res := some (.tup [.p (.s r.1), .p (.i .i64 r.2)], [])
def Jk1 (x28 : Vector J8 16) (b0 : T_api_Page) (o : (Int × T_page_builder) ⊕ ((List UInt8) × Int)) : Option Res := match o with
  | .inl s => rk (J1 p) J2H 0 [.bl 1, .td 2 [1, 2, 3, 4], .sq (.keep [1, 4] J4F)] (X (J1 p) (.lp 2 [1, 4, 5, 28, 29] J3E) ⟨[(1, .ptr 0 0), (4, .ptr 1 0), (5, .fn J1h [.ptr 1 0] []), (28, .data ((JO Jh) x28)), (29, .p (.i .i64 s.1))], [.box (List.map AV.p (J4 b0)), .box (List.map AV.p (J11 s.2))]⟩)
  | .inr o => J7g o
def J7M (b0 : T_api_Page) (b1 : T_page_builder) : Option ((List UInt8) × Int) :=
  Option.bind (J46 ([0]) (IntKind.wrap .i64 (244 - ((List.length b1.s_ : Nat) : Int)))) fun r1 =>
  Option.bind (J4a b1.s_ r1) fun s5 =>
  Option.bind (J3f s5) fun r7 =>
  Option.bind (J6x s5 (IntKind.wrap .i64 r7) 4) fun r11 =>
  Option.bind (J6x r11 b0.LSN 8) fun r15 =>
  some (r15, 0)
theorem JkN {b0 : T_api_Page} {b1 : T_page_builder} {o : (List UInt8) × Int} (h : J7M b0 b1 = some o) :
    rk (J1 p) J2H 0 [] (X (J1 p) J4F ⟨[(1, .ptr 0 0), (4, .ptr 1 0)], [.box (List.map AV.p (J4 b0)), .box (List.map AV.p (J11 b1))]⟩) = J7g o := by
  unfold J7M at h
  obtain ⟨r1, h2, h⟩ := bi h
  have f3 := JaC p h2
  try simp only [Nf, JS] at f3
  have f4 : ∀ ws k new s, Jm ((Jq (AF (J1 p)) J2C ([.p (.s [0]), .p (.i .i64 (IntKind.wrap .i64 (244 - ((List.length b1.s_ : Nat) : Int))))], ws) k new).reads s) = [] := J1x rfl
  try simp only [Nf, JS] at f4
  obtain ⟨s5, h6, h⟩ := bi h
  obtain ⟨r7, h8, h⟩ := bi h
  have f9 := Jih p h8
  try simp only [Nf, JS] at f9
  have f10 : ∀ ws k new s, Jm ((Jq (AF (J1 p)) J6t ([.p (.s s5)], ws) k new).reads s) = [] := J1x rfl
  try simp only [Nf, JS] at f10
  obtain ⟨r11, h12, h⟩ := bi h
  have f13 := Jak p h12
  try simp only [Nf, JS] at f13
  have f14 : ∀ ws k new s, Jm ((Jq (AF (J1 p)) J2r ([.p (.s s5), .p (.i .i64 (IntKind.wrap .i64 r7)), .p (.i .i64 4)], ws) k new).reads s) = [] := J1x rfl
  try simp only [Nf, JS] at f14
  obtain ⟨r15, h16, h⟩ := bi h
  have f17 := Jak p h16
  try simp only [Nf, JS] at f17
  have f18 : ∀ ws k new s, Jm ((Jq (AF (J1 p)) J2r ([.p (.s r11), .p (.i .i64 b0.LSN), .p (.i .i64 8)], ws) k new).reads s) = [] := J1x rfl
  try simp only [Nf, JS] at f18
  obtain rfl := sj h
  try simp only [↓Da, Ua, Ra, J4F, J3, J2, J6, JS, Jc2, *, ↓reduceIte, Nat.reduceEqDiff, Nat.reduceAdd, Nat.reduceLT, Nat.reduceMul, Nat.reduceBEq]
  rfl
def J2o (x28 : Vector J8 16) (b0 : T_api_Page) (x29 : Int) (b1 : T_page_builder) : Option (((Int × T_page_builder) ⊕ ((List UInt8) × Int))) :=
  if (decide (x29 < 16)) then
    Option.bind (J6Z x28 x29) fun y2 =>
    Option.bind (J29 b1 y2) fun r6 =>
    some (.inl ((IntKind.wrap .i64 (x29 + 1)), r6))
  else
    Option.map (fun o => .inr o) (J7M b0 b1)
theorem JdF {x28 : Vector J8 16} {b0 : T_api_Page} {x29 : Int} {b1 : T_page_builder} {o : ((Int × T_page_builder) ⊕ ((List UInt8) × Int))} (h : J2o x28 b0 x29 b1 = some o) :
    rk (J1 p) J2H 0 [.lo 2 [1, 4, 5, 28, 29] J3E, .bl 1, .td 2 [1, 2, 3, 4], .sq (.keep [1, 4] J4F)] (X (J1 p) J3E ⟨[(1, .ptr 0 0), (4, .ptr 1 0), (5, .fn J1h [.ptr 1 0] []), (28, .data ((JO Jh) x28)), (29, .p (.i .i64 x29))], [.box (List.map AV.p (J4 b0)), .box (List.map AV.p (J11 b1))]⟩) = (Jk1 p x28 b0) o := by
  unfold J2o at h
  rcases J9 h with ⟨h1, h⟩ | ⟨h1, h⟩
  · obtain ⟨y2, h3, h⟩ := bi h
    have f4 : (0 ≤ (x29 : Int) ∧ (x29 : Int) < ((16 : Nat) : Int)) = True := eq_true (J3a h3).1
    have f5 : sub (JO Jh x28) (Int.toNat x29 * 2) 2 = some (Jh y2) := J7y JI (J3a h3).2
    try simp only [Nf, JS] at f5
    obtain ⟨r6, h7, h⟩ := bi h
    have f8 : ∀ ws new s, JP ws s [1] [List.map AV.p (J11 b1)] → (Jq (AF (J1 p)) J1h ([.ptr 1 0, .data (Jh y2)], ws) 0 new).run s = some ⟨.tup [], ws ++ [(1, .box (List.map AV.p (J11 r6)))]⟩ := JG (args' := [.ptr 0 0, .data (Jh y2)]) (bs := [1]) (css := [List.map AV.p (J11 b1)]) (css' := [List.map AV.p (J11 r6)]) rfl rfl rfl (by simp [Jo, Jb]) (Jg0 p h7) rfl rfl (by simp [Jo, Jb])
    try simp only [Nf, JS] at f8
    obtain rfl := sj h
    try simp only [↓Da, Ua, J3E, J3, JS, *, ↓reduceIte, Nat.reduceEqDiff, Nat.reduceAdd, Nat.reduceLT, Nat.reduceMul]
    rfl
  · obtain ⟨o', h', rfl⟩ := mi h
    try simp only [↓Da, Ua, J3E, J3, JS, *, ↓reduceIte, Nat.reduceEqDiff, Nat.reduceAdd, Nat.reduceLT, Nat.reduceMul]
    have e0 := JkN p h'
    exact e0
def Jb4 (x28 : Vector J8 16) (b0 : T_api_Page) (s : Int × T_page_builder) : Option ((List UInt8) × Int) :=
  JK (fun s => J2o x28 b0 s.1 s.2) s
theorem JhQ {x28 : Vector J8 16} {b0 : T_api_Page} {s : Int × T_page_builder} {o : (List UInt8) × Int} (h : Jb4 x28 b0 s = some o) :
    rk (J1 p) J2H 0 [.bl 1, .td 2 [1, 2, 3, 4], .sq (.keep [1, 4] J4F)] (X (J1 p) (.lp 2 [1, 4, 5, 28, 29] J3E) ⟨[(1, .ptr 0 0), (4, .ptr 1 0), (5, .fn J1h [.ptr 1 0] []), (28, .data ((JO Jh) x28)), (29, .p (.i .i64 s.1))], [.box (List.map AV.p (J4 b0)), .box (List.map AV.p (J11 s.2))]⟩) = J7g o := by
  have h0 : JK (fun s => J2o x28 b0 s.1 s.2) s = some o := h
  exact J10 (P := fun (s : Int × T_page_builder) (o : (List UInt8) × Int) => rk (J1 p) J2H 0 [.bl 1, .td 2 [1, 2, 3, 4], .sq (.keep [1, 4] J4F)] (X (J1 p) (.lp 2 [1, 4, 5, 28, 29] J3E) ⟨[(1, .ptr 0 0), (4, .ptr 1 0), (5, .fn J1h [.ptr 1 0] []), (28, .data ((JO Jh) x28)), (29, .p (.i .i64 s.1))], [.box (List.map AV.p (J4 b0)), .box (List.map AV.p (J11 s.2))]⟩) = J7g o) (fun s r hs => by rw [J0Z]; exact JdF p hs) (fun s s1 r hs ih => by rw [J0Z]; exact (JdF p hs).trans ih) h0
def J1l (x0 : T_api_Page) : Option ((List UInt8) × Int) :=
  Option.bind (J1P x0) fun r1 =>
  if r1 then
    Option.bind (J5E x0) fun r5 =>
    if r5 then
      Option.bind (J6x ([]) x0.LSN 8) fun r9 =>
      Option.bind (J6x r9 x0.ID 4) fun r13 =>
      Jb4 x0.Cells x0 (0, (⟨r13⟩ : T_page_builder))
    else
      some (([] : List UInt8), 22)
  else
    some (([] : List UInt8), 1)
theorem JhK {x0 : T_api_Page} {o : (List UInt8) × Int} (h : J1l x0 = some o) :
    rk (J1 p) J2H 0 [] (X (J1 p) J3X ⟨[(0, .data (J4 x0))], []⟩) = J7g o := by
  unfold J1l at h
  obtain ⟨r1, h2, h⟩ := bi h
  have f3 := Jmn p h2
  try simp only [Nf, JS] at f3
  try simp only [↓Da, Ua, Ra, J3X, J3, J2, J6, JS, *, ↓reduceIte, Nat.reduceEqDiff, Nat.reduceAdd, Nat.reduceLT, Nat.reduceMul, Nat.reduceBEq]
  rcases J9 h with ⟨h4, h⟩ | ⟨h4, h⟩
  · obtain ⟨r5, h6, h⟩ := bi h
    have f7 := Jo1 p h6
    try simp only [Nf, JS] at f7
    try simp only [↓Da, Ua, Ra, J3X, J3, J2, J6, JS, *, ↓reduceIte, Nat.reduceEqDiff, Nat.reduceAdd, Nat.reduceLT, Nat.reduceMul, Nat.reduceBEq]
    rcases J9 h with ⟨h8, h⟩ | ⟨h8, h⟩
    · obtain ⟨r9, h10, h⟩ := bi h
      have f11 := Jak p h10
      try simp only [Nf, JS] at f11
      have f12 : ∀ ws k new s, Jm ((Jq (AF (J1 p)) J2r ([.p (.s []), .p (.i .i64 x0.LSN), .p (.i .i64 8)], ws) k new).reads s) = [] := J1x rfl
      try simp only [Nf, JS] at f12
      obtain ⟨r13, h14, h⟩ := bi h
      have f15 := Jak p h14
      try simp only [Nf, JS] at f15
      have f16 : ∀ ws k new s, Jm ((Jq (AF (J1 p)) J2r ([.p (.s r9), .p (.i .i64 x0.ID), .p (.i .i64 4)], ws) k new).reads s) = [] := J1x rfl
      try simp only [Nf, JS] at f16
      try simp only [↓Da, Ua, Ra, J3X, J3, J2, J6, JS, *, ↓reduceIte, Nat.reduceEqDiff, Nat.reduceAdd, Nat.reduceLT, Nat.reduceMul, Nat.reduceBEq]
      have e0 := JhQ p h
      exact e0
    · obtain rfl := sj h
      try simp only [↓Da, Ua, Ra, J3X, J3, J2, J6, JS, Jc2, *, ↓reduceIte, Nat.reduceEqDiff, Nat.reduceAdd, Nat.reduceLT, Nat.reduceMul, Nat.reduceBEq]
      rfl
  · obtain rfl := sj h
    try simp only [↓Da, Ua, Ra, J3X, J3, J2, J6, JS, Jc2, *, ↓reduceIte, Nat.reduceEqDiff, Nat.reduceAdd, Nat.reduceLT, Nat.reduceMul, Nat.reduceBEq]
    rfl
theorem JmO {x0 : T_api_Page} {o : (List UInt8) × Int} (h : J1l x0 = some o) : AF (J1 p) J7d [.data (J4 x0)] [] = J7g o :=
  (J0j (J1 p) (JmQ p) rfl).trans (JhK p h)
theorem Jnd {x0 : T_api_Page} {o : (List UInt8) × Int} (h : J1l x0 = some o) : ∀ ws new st, (Jq (AF (J1 p)) J7d ([.data (J4 x0)], ws) 0 new).run st = some ⟨.tup [.p (.s o.1), .p (.i .i64 o.2)], ws⟩ := Jz rfl (JmO p h) rfl
def JfP  (r : Int) : Option Res := some (.p (.i .i64 r), [])
def J61 (x0 : T_api_Page) : Option (Int) :=
  Option.bind (J4D x0) fun r1 =>
  if r1 then
    Option.bind (J64 x0) fun r5 =>
    if r5 then
      some 0
    else
      some 22
  else
    some 1
theorem JhL {x0 : T_api_Page} {o : Int} (h : J61 x0 = some o) :
    rk (J1 p) J7r 0 [] (X (J1 p) J3Y ⟨[(0, .data (J4 x0))], []⟩) = JfP o := by
  unfold J61 at h
  obtain ⟨r1, h2, h⟩ := bi h
  have f3 := Jks p h2
  try simp only [Nf] at f3
  try simp only [↓Da, Ua, J3Y, J3, J2, J6, *, ↓reduceIte, Nat.reduceEqDiff, Nat.reduceAdd, Nat.reduceLT, Nat.reduceMul]
  rcases J9 h with ⟨h4, h⟩ | ⟨h4, h⟩
  · obtain ⟨r5, h6, h⟩ := bi h
    have f7 := JmX p h6
    try simp only [Nf] at f7
    try simp only [↓Da, Ua, J3Y, J3, J2, J6, *, ↓reduceIte, Nat.reduceEqDiff, Nat.reduceAdd, Nat.reduceLT, Nat.reduceMul]
    rcases J9 h with ⟨h8, h⟩ | ⟨h8, h⟩
    · obtain rfl := sj h
      try simp only [↓Da, Ua, J3Y, J3, J2, J6, JbV, *, ↓reduceIte, Nat.reduceEqDiff, Nat.reduceAdd, Nat.reduceLT, Nat.reduceMul]
      rfl
    · obtain rfl := sj h
      try simp only [↓Da, Ua, J3Y, J3, J2, J6, JbV, *, ↓reduceIte, Nat.reduceEqDiff, Nat.reduceAdd, Nat.reduceLT, Nat.reduceMul]
      rfl
  · obtain rfl := sj h
    try simp only [↓Da, Ua, J3Y, J3, J2, J6, JbV, *, ↓reduceIte, Nat.reduceEqDiff, Nat.reduceAdd, Nat.reduceLT, Nat.reduceMul]
    rfl
theorem Jne {x0 : T_api_Page} {o : Int} (h : J61 x0 = some o) : AF (J1 p) J7c [.data (J4 x0)] [] = JfP o :=
  (J0j (J1 p) (Jmy p) rfl).trans (JhL p h)
theorem Jmm {x0 : T_api_Page} {o : Int} (h : J61 x0 = some o) : ∀ ws new st, (Jq (AF (J1 p)) J7c ([.data (J4 x0)], ws) 0 new).run st = some ⟨.p (.i .i64 o), ws⟩ := Jz rfl (Jne p h) rfl
def J03  (r : Int) : Option Res := some (.p (.i .i64 r), [])
def J5i (x0 : List T_api_Row) (x7 : Int) (o : (Int) ⊕ (Int)) : Option Res := match o with
  | .inl s => rk (J1 p) JX 0 [.bl 0, .sq (.keep [] J0t)] (X (J1 p) (.lp 0 [0, 1, 7, 8] JZ) ⟨[(0, .p (.sl 3 (List.map Je x0))), (1, .fn J01 [] []), (7, .p (.i .i64 x7)), (8, .p (.i .i64 s))], []⟩)
  | .inr o => J03 o
def J0a  : Option (Int) :=
  some (-1)
theorem J5t  {o : Int} (h : J0a = some o) :
    rk (J1 p) JX 0 [] (X (J1 p) J0t ⟨[], []⟩) = J03 o := by
  unfold J0a at h
  obtain rfl := sj h
  try simp only [↓Da, Ua, J0t, J6d, ↓reduceIte, Nat.reduceEqDiff, Nat.reduceAdd, Nat.reduceLT, Nat.reduceMul]
  rfl
def Jx (x0 : List T_api_Row) (x7 : Int) (x8 : Int) : Option (((Int) ⊕ (Int))) :=
  if (decide (x8 < x7)) then
    Option.bind (idx x0 x8) fun y2 =>
    Option.bind (J1u y2) fun r5 =>
    if r5 then
      some (.inr x8)
    else
      some (.inl (IntKind.wrap .i64 (x8 + 1)))
  else
    Option.map (fun o => .inr o) (J0a)
theorem J2g {x0 : List T_api_Row} {x7 : Int} {x8 : Int} {o : ((Int) ⊕ (Int))} (h : Jx x0 x7 x8 = some o) :
    rk (J1 p) JX 0 [.lo 0 [0, 1, 7, 8] JZ, .bl 0, .sq (.keep [] J0t)] (X (J1 p) JZ ⟨[(0, .p (.sl 3 (List.map Je x0))), (1, .fn J01 [] []), (7, .p (.i .i64 x7)), (8, .p (.i .i64 x8))], []⟩) = (J5i p x0 x7) o := by
  unfold Jx at h
  rcases J9 h with ⟨h1, h⟩ | ⟨h1, h⟩
  · obtain ⟨y2, h3, h⟩ := bi h
    have f4 := J5J (r := Je) h3
    try simp only [Nf] at f4
    obtain ⟨r5, h6, h⟩ := bi h
    have f7 := JeM p h6
    try simp only [Nf] at f7
    try simp only [↓Da, Ua, JZ, Jk, *, ↓reduceIte, Nat.reduceEqDiff, Nat.reduceAdd, Nat.reduceLT, Nat.reduceMul]
    rcases J9 h with ⟨h8, h⟩ | ⟨h8, h⟩
    · obtain rfl := sj h
      try simp only [↓Da, Ua, JZ, Jk, J6d, *, ↓reduceIte, Nat.reduceEqDiff, Nat.reduceAdd, Nat.reduceLT, Nat.reduceMul]
      rfl
    · obtain rfl := sj h
      try simp only [↓Da, Ua, JZ, Jk, *, ↓reduceIte, Nat.reduceEqDiff, Nat.reduceAdd, Nat.reduceLT, Nat.reduceMul]
      rfl
  · obtain ⟨o', h', rfl⟩ := mi h
    try simp only [↓Da, Ua, JZ, Jk, *, ↓reduceIte, Nat.reduceEqDiff, Nat.reduceAdd, Nat.reduceLT, Nat.reduceMul]
    have e0 := J5t p h'
    exact e0
def J2i (x0 : List T_api_Row) (x7 : Int) (s : Int) : Option (Int) :=
  JK (fun s => Jx x0 x7 s) s
theorem J58 {x0 : List T_api_Row} {x7 : Int} {s : Int} {o : Int} (h : J2i x0 x7 s = some o) :
    rk (J1 p) JX 0 [.bl 0, .sq (.keep [] J0t)] (X (J1 p) (.lp 0 [0, 1, 7, 8] JZ) ⟨[(0, .p (.sl 3 (List.map Je x0))), (1, .fn J01 [] []), (7, .p (.i .i64 x7)), (8, .p (.i .i64 s))], []⟩) = J03 o := by
  have h0 : JK (fun s => Jx x0 x7 s) s = some o := h
  exact J10 (P := fun (s : Int) (o : Int) => rk (J1 p) JX 0 [.bl 0, .sq (.keep [] J0t)] (X (J1 p) (.lp 0 [0, 1, 7, 8] JZ) ⟨[(0, .p (.sl 3 (List.map Je x0))), (1, .fn J01 [] []), (7, .p (.i .i64 x7)), (8, .p (.i .i64 s))], []⟩) = J03 o) (fun s r hs => by rw [J0Z]; exact J2g p hs) (fun s s1 r hs ih => by rw [J0Z]; exact (J2g p hs).trans ih) h0
def J02 (x0 : List T_api_Row) : Option (Int) :=
  J2i x0 ((List.length x0 : Nat) : Int) 0
theorem J57 {x0 : List T_api_Row} {o : Int} (h : J02 x0 = some o) :
    rk (J1 p) JX 0 [] (X (J1 p) J1n ⟨[(0, .p (.sl 3 (List.map Je x0))), (1, .fn J01 [] [])], []⟩) = J03 o := by
  unfold J02 at h
  try simp only [↓Da, Ua, J1n, Jk, ↓reduceIte, Nat.reduceEqDiff, Nat.reduceAdd, Nat.reduceLT, Nat.reduceMul]
  have e0 := J58 p h
  exact e0
theorem J5I {x0 : List T_api_Row} {o : Int} (h : J02 x0 = some o) : AF (J1 p) J0Q [.p (.sl 3 (List.map Je x0)), .fn J01 [] []] [] = J03 o :=
  (J0j (J1 p) (Ja9 p) rfl).trans (J57 p h)
def J2b  (r : Bool) : Option Res := some (.p (.b r), [])
def JY (x0 : List T_api_Row) : Option (Bool) :=
  Option.bind (J02 x0) fun r1 =>
  some (decide (r1 ≥ 0))
theorem J4t {x0 : List T_api_Row} {o : Bool} (h : JY x0 = some o) :
    rk (J1 p) J0E 0 [] (X (J1 p) J14 ⟨[(0, .p (.sl 3 (List.map Je x0))), (1, .fn J01 [] [])], []⟩) = J2b o := by
  unfold JY at h
  obtain ⟨r1, h2, h⟩ := bi h
  have f3 : ∀ ws new s, (Jq (AF (J1 p)) J0Q ([.p (.sl 3 (List.map Je x0)), .fn J01 [] []], ws) 0 new).run s = some ⟨.p (.i .i64 r1), ws⟩ := fun ws new s => (JG (args' := [.p (.sl 3 (List.map Je x0)), .fn J01 [] []]) (bs := []) (css := []) (css' := []) rfl rfl rfl rfl (J5I p h2) rfl rfl rfl ws new s trivial).trans (by simp)
  try simp only [Nf] at f3
  obtain rfl := sj h
  try simp only [↓Da, Ua, J14, Jk, J9s, *, ↓reduceIte, Nat.reduceEqDiff, Nat.reduceAdd, Nat.reduceLT, Nat.reduceMul]
  rfl
theorem J5f {x0 : List T_api_Row} {o : Bool} (h : JY x0 = some o) : AF (J1 p) J0D [.p (.sl 3 (List.map Je x0)), .fn J01 [] []] [] = J2b o :=
  (J0j (J1 p) (J9u p) rfl).trans (J4t p h)
def Jcg  (r : Bool) : Option Res := some (.p (.b r), [])
def J1J (x0 : T_api_Index) : Option (Bool) :=
  if (decide (((List.length x0.Rows : Nat) : Int) ≥ 1)) then
    if (decide (((List.length x0.Rows : Nat) : Int) ≤ 64)) then
      Option.bind (JY x0.Rows) fun r3 =>
      some (!r3)
    else
      some false
  else
    some false
theorem Jem {x0 : T_api_Index} {o : Bool} (h : J1J x0 = some o) :
    rk (J1 p) J4V 0 [] (X (J1 p) J2S ⟨[(0, .data (Jj x0))], []⟩) = Jcg o := by
  unfold J1J at h
  rcases J9 h with ⟨h1, h⟩ | ⟨h1, h⟩
  · try simp only [↓Da, Ua, J2S, J5, Jk, *, ↓reduceIte, Nat.reduceEqDiff, Nat.reduceAdd, Nat.reduceLT, Nat.reduceMul]
    rcases J9 h with ⟨h2, h⟩ | ⟨h2, h⟩
    · obtain ⟨r3, h4, h⟩ := bi h
      have f5 : ∀ ws new s, (Jq (AF (J1 p)) J0D ([.p (.sl 3 (List.map Je x0.Rows)), .fn J01 [] []], ws) 0 new).run s = some ⟨.p (.b r3), ws⟩ := fun ws new s => (JG (args' := [.p (.sl 3 (List.map Je x0.Rows)), .fn J01 [] []]) (bs := []) (css := []) (css' := []) rfl rfl rfl rfl (J5f p h4) rfl rfl rfl ws new s trivial).trans (by simp)
      try simp only [Nf, J5] at f5
      obtain rfl := sj h
      try simp only [↓Da, Ua, J2S, J5, Jk, Ja6, *, ↓reduceIte, Nat.reduceEqDiff, Nat.reduceAdd, Nat.reduceLT, Nat.reduceMul]
      rfl
    · obtain rfl := sj h
      try simp only [↓Da, Ua, J2S, J5, Jk, Ja6, *, ↓reduceIte, Nat.reduceEqDiff, Nat.reduceAdd, Nat.reduceLT, Nat.reduceMul]
      rfl
  · obtain rfl := sj h
    try simp only [↓Da, Ua, J2S, J5, Jk, Ja6, *, ↓reduceIte, Nat.reduceEqDiff, Nat.reduceAdd, Nat.reduceLT, Nat.reduceMul]
    rfl
theorem JhX {x0 : T_api_Index} {o : Bool} (h : J1J x0 = some o) : AF (J1 p) J3z [.data (Jj x0)] [] = Jcg o :=
  (J0j (J1 p) (Jhv p) rfl).trans (Jem p h)
theorem Jc8 {x0 : T_api_Index} {o : Bool} (h : J1J x0 = some o) : ∀ ws new st, (Jq (AF (J1 p)) J3z ([.data (Jj x0)], ws) 0 new).run st = some ⟨.p (.b o), ws⟩ := Jz rfl (JhX p h) rfl
def J0U  (r : Bool) : Option Res := some (.p (.b r), [])
def Jbc (b0 : Jg) : Option (Bool) :=
  if (decide (((List.length b0.Blob : Nat) : Int) ≤ 8192)) then
    Option.bind (J2v b0) fun r2 =>
    if r2 then
      Option.bind (J6I b0.Change) fun r6 =>
      some r6
    else
      some false
  else
    some false
theorem Jk3 {b0 : Jg} {o : Bool} (h : Jbc b0 = some o) :
    rk (J1 p) J0u 0 [] (X (J1 p) JJ ⟨[(1, .ptr 0 0), (3, .ptr 1 0)], [.box (List.map AV.p (J7 b0)), .box [.p (.b true), .p (.b false), .p (.b true), .p (.b false), .p (.b false), .fn JD [] [], .fn J0I [] []]]⟩) = J0U o := by
  unfold Jbc at h
  rcases J9 h with ⟨h1, h⟩ | ⟨h1, h⟩
  · obtain ⟨r2, h3, h⟩ := bi h
    have f4 := J8r p h3
    try simp only [Nf, Ji, Ja, Jd] at f4
    try simp only [↓Da, Ua, JJ, Ji, Ja, Jd, *, ↓reduceIte, Nat.reduceEqDiff, Nat.reduceAdd, Nat.reduceLT, Nat.reduceMul]
    rcases J9 h with ⟨h5, h⟩ | ⟨h5, h⟩
    · obtain ⟨r6, h7, h⟩ := bi h
      have f8 := Jec p h7
      try simp only [Nf, Ji, Ja, Jd] at f8
      obtain rfl := sj h
      try simp only [↓Da, Ua, JJ, Ji, Ja, Jd, JB, *, ↓reduceIte, Nat.reduceEqDiff, Nat.reduceAdd, Nat.reduceLT, Nat.reduceMul]
      rfl
    · obtain rfl := sj h
      try simp only [↓Da, Ua, JJ, Ji, Ja, Jd, JB, *, ↓reduceIte, Nat.reduceEqDiff, Nat.reduceAdd, Nat.reduceLT, Nat.reduceMul]
      rfl
  · obtain rfl := sj h
    try simp only [↓Da, Ua, JJ, Ji, Ja, Jd, JB, *, ↓reduceIte, Nat.reduceEqDiff, Nat.reduceAdd, Nat.reduceLT, Nat.reduceMul]
    rfl
def J7C (x47 : Bool) (b0 : Jg) : Option (Bool) :=
  if x47 then
    some false
  else
    if ((b0.Ref : Int) != 0) then
      some false
    else
      if (b0.Blob == []) then
        Jbc b0
      else
        some false
theorem Jbd {x47 : Bool} {b0 : Jg} {o : Bool} (h : J7C x47 b0 = some o) :
    rk (J1 p) J0u 0 [.bl 0, .sq (.keep [1, 3] JJ)] (X (J1 p) Jt ⟨[(1, .ptr 0 0), (3, .ptr 1 0), (47, .p (.b x47))], [.box (List.map AV.p (J7 b0)), .box [.p (.b true), .p (.b false), .p (.b true), .p (.b false), .p (.b false), .fn JD [] [], .fn J0I [] []]]⟩) = J0U o := by
  unfold J7C at h
  rcases J9 h with ⟨h1, h⟩ | ⟨h1, h⟩
  · obtain rfl := sj h
    try simp only [↓Da, Ua, Jt, Ji, Ja, Jd, JB, *, ↓reduceIte, Nat.reduceEqDiff, Nat.reduceAdd, Nat.reduceLT, Nat.reduceMul]
    rfl
  · try simp only [↓Da, Ua, Jt, Ji, Ja, Jd, *, ↓reduceIte, Nat.reduceEqDiff, Nat.reduceAdd, Nat.reduceLT, Nat.reduceMul]
    rcases J9 h with ⟨h2, h⟩ | ⟨h2, h⟩
    · obtain rfl := sj h
      try simp only [↓Da, Ua, Jt, Ji, Ja, Jd, JB, *, ↓reduceIte, Nat.reduceEqDiff, Nat.reduceAdd, Nat.reduceLT, Nat.reduceMul]
      rfl
    · try simp only [↓Da, Ua, Jt, Ji, Ja, Jd, *, ↓reduceIte, Nat.reduceEqDiff, Nat.reduceAdd, Nat.reduceLT, Nat.reduceMul]
      rcases J9 h with ⟨h3, h⟩ | ⟨h3, h⟩
      · try simp only [↓Da, Ua, Jt, Ji, Ja, Jd, *, ↓reduceIte, Nat.reduceEqDiff, Nat.reduceAdd, Nat.reduceLT, Nat.reduceMul]
        have e0 := Jk3 p h
        exact e0
      · obtain rfl := sj h
        try simp only [↓Da, Ua, Jt, Ji, Ja, Jd, JB, *, ↓reduceIte, Nat.reduceEqDiff, Nat.reduceAdd, Nat.reduceLT, Nat.reduceMul]
        rfl
def Jbk (b0 : Jg) : Option (Bool) :=
  if (decide (b0.Tx < 1)) then
    J7C true b0
  else
    if (decide (b0.Tx > 1073741824)) then
      J7C true b0
    else
      J7C false b0
theorem Jkp {b0 : Jg} {o : Bool} (h : Jbk b0 = some o) :
    rk (J1 p) J0u 0 [] (X (J1 p) J0k ⟨[(1, .ptr 0 0), (3, .ptr 1 0)], [.box (List.map AV.p (J7 b0)), .box [.p (.b true), .p (.b false), .p (.b true), .p (.b false), .p (.b false), .fn JD [] [], .fn J0I [] []]]⟩) = J0U o := by
  unfold Jbk at h
  rcases J9 h with ⟨h1, h⟩ | ⟨h1, h⟩
  · try simp only [↓Da, Ua, J0k, Ji, Ja, Jd, *, ↓reduceIte, Nat.reduceEqDiff, Nat.reduceAdd, Nat.reduceLT, Nat.reduceMul]
    have e0 := Jbd p h
    exact e0
  · try simp only [↓Da, Ua, J0k, Ji, Ja, Jd, *, ↓reduceIte, Nat.reduceEqDiff, Nat.reduceAdd, Nat.reduceLT, Nat.reduceMul]
    rcases J9 h with ⟨h2, h⟩ | ⟨h2, h⟩
    · try simp only [↓Da, Ua, J0k, Ji, Ja, Jd, *, ↓reduceIte, Nat.reduceEqDiff, Nat.reduceAdd, Nat.reduceLT, Nat.reduceMul]
      have e0 := Jbd p h
      exact e0
    · try simp only [↓Da, Ua, J0k, Ji, Ja, Jd, *, ↓reduceIte, Nat.reduceEqDiff, Nat.reduceAdd, Nat.reduceLT, Nat.reduceMul]
      have e0 := Jbd p h
      exact e0
def Ja5 (b0 : Jg) : Option (Bool) :=
  if (decide (((List.length b0.Blob : Nat) : Int) ≤ 8192)) then
    Option.bind (J6Q b0) fun r2 =>
    if r2 then
      Option.bind (J6I b0.Change) fun r6 =>
      some r6
    else
      some false
  else
    some false
theorem Jhz {b0 : Jg} {o : Bool} (h : Ja5 b0 = some o) :
    rk (J1 p) J0u 0 [] (X (J1 p) JJ ⟨[(1, .ptr 0 0), (3, .ptr 1 0)], [.box (List.map AV.p (J7 b0)), .box [.p (.b true), .p (.b true), .p (.b true), .p (.b true), .p (.b false), .fn J1F [] [], .fn J0I [] []]]⟩) = J0U o := by
  unfold Ja5 at h
  rcases J9 h with ⟨h1, h⟩ | ⟨h1, h⟩
  · obtain ⟨r2, h3, h⟩ := bi h
    have f4 := Jj1 p h3
    try simp only [Nf, Ji, Ja, Jd] at f4
    try simp only [↓Da, Ua, JJ, Ji, Ja, Jd, *, ↓reduceIte, Nat.reduceEqDiff, Nat.reduceAdd, Nat.reduceLT, Nat.reduceMul]
    rcases J9 h with ⟨h5, h⟩ | ⟨h5, h⟩
    · obtain ⟨r6, h7, h⟩ := bi h
      have f8 := Jec p h7
      try simp only [Nf, Ji, Ja, Jd] at f8
      obtain rfl := sj h
      try simp only [↓Da, Ua, JJ, Ji, Ja, Jd, JB, *, ↓reduceIte, Nat.reduceEqDiff, Nat.reduceAdd, Nat.reduceLT, Nat.reduceMul]
      rfl
    · obtain rfl := sj h
      try simp only [↓Da, Ua, JJ, Ji, Ja, Jd, JB, *, ↓reduceIte, Nat.reduceEqDiff, Nat.reduceAdd, Nat.reduceLT, Nat.reduceMul]
      rfl
  · obtain rfl := sj h
    try simp only [↓Da, Ua, JJ, Ji, Ja, Jd, JB, *, ↓reduceIte, Nat.reduceEqDiff, Nat.reduceAdd, Nat.reduceLT, Nat.reduceMul]
    rfl
def J6e (x47 : Bool) (b0 : Jg) : Option (Bool) :=
  if x47 then
    some false
  else
    if (b0.Blob == []) then
      Ja5 b0
    else
      some false
theorem Ja0 {x47 : Bool} {b0 : Jg} {o : Bool} (h : J6e x47 b0 = some o) :
    rk (J1 p) J0u 0 [.bl 0, .sq (.keep [1, 3] JJ)] (X (J1 p) Jt ⟨[(1, .ptr 0 0), (3, .ptr 1 0), (47, .p (.b x47))], [.box (List.map AV.p (J7 b0)), .box [.p (.b true), .p (.b true), .p (.b true), .p (.b true), .p (.b false), .fn J1F [] [], .fn J0I [] []]]⟩) = J0U o := by
  unfold J6e at h
  rcases J9 h with ⟨h1, h⟩ | ⟨h1, h⟩
  · obtain rfl := sj h
    try simp only [↓Da, Ua, Jt, Ji, Ja, Jd, JB, *, ↓reduceIte, Nat.reduceEqDiff, Nat.reduceAdd, Nat.reduceLT, Nat.reduceMul]
    rfl
  · try simp only [↓Da, Ua, Jt, Ji, Ja, Jd, *, ↓reduceIte, Nat.reduceEqDiff, Nat.reduceAdd, Nat.reduceLT, Nat.reduceMul]
    rcases J9 h with ⟨h2, h⟩ | ⟨h2, h⟩
    · try simp only [↓Da, Ua, Jt, Ji, Ja, Jd, *, ↓reduceIte, Nat.reduceEqDiff, Nat.reduceAdd, Nat.reduceLT, Nat.reduceMul]
      have e0 := Jhz p h
      exact e0
    · obtain rfl := sj h
      try simp only [↓Da, Ua, Jt, Ji, Ja, Jd, JB, *, ↓reduceIte, Nat.reduceEqDiff, Nat.reduceAdd, Nat.reduceLT, Nat.reduceMul]
      rfl
def Jaa (b0 : Jg) : Option (Bool) :=
  if (decide (b0.Tx < 1)) then
    J6e true b0
  else
    if (decide (b0.Tx > 1073741824)) then
      J6e true b0
    else
      J6e ((b0.PrevTx : Int) == 0) b0
theorem JhO {b0 : Jg} {o : Bool} (h : Jaa b0 = some o) :
    rk (J1 p) J0u 0 [] (X (J1 p) J0k ⟨[(1, .ptr 0 0), (3, .ptr 1 0)], [.box (List.map AV.p (J7 b0)), .box [.p (.b true), .p (.b true), .p (.b true), .p (.b true), .p (.b false), .fn J1F [] [], .fn J0I [] []]]⟩) = J0U o := by
  unfold Jaa at h
  rcases J9 h with ⟨h1, h⟩ | ⟨h1, h⟩
  · try simp only [↓Da, Ua, J0k, Ji, Ja, Jd, *, ↓reduceIte, Nat.reduceEqDiff, Nat.reduceAdd, Nat.reduceLT, Nat.reduceMul]
    have e0 := Ja0 p h
    exact e0
  · try simp only [↓Da, Ua, J0k, Ji, Ja, Jd, *, ↓reduceIte, Nat.reduceEqDiff, Nat.reduceAdd, Nat.reduceLT, Nat.reduceMul]
    rcases J9 h with ⟨h2, h⟩ | ⟨h2, h⟩
    · try simp only [↓Da, Ua, J0k, Ji, Ja, Jd, *, ↓reduceIte, Nat.reduceEqDiff, Nat.reduceAdd, Nat.reduceLT, Nat.reduceMul]
      have e0 := Ja0 p h
      exact e0
    · try simp only [↓Da, Ua, J0k, Ji, Ja, Jd, *, ↓reduceIte, Nat.reduceEqDiff, Nat.reduceAdd, Nat.reduceLT, Nat.reduceMul]
      have e0 := Ja0 p h
      exact e0
def Ja8 (b0 : Jg) : Option (Bool) :=
  if (decide (((List.length b0.Blob : Nat) : Int) ≤ 8192)) then
    Option.bind (J2v b0) fun r2 =>
    if r2 then
      Option.bind (J8n b0.Change) fun r6 =>
      some r6
    else
      some false
  else
    some false
theorem Ji4 {b0 : Jg} {o : Bool} (h : Ja8 b0 = some o) :
    rk (J1 p) J0u 0 [] (X (J1 p) JJ ⟨[(1, .ptr 0 0), (3, .ptr 1 0)], [.box (List.map AV.p (J7 b0)), .box [.p (.b true), .p (.b true), .p (.b false), .p (.b false), .p (.b false), .fn JD [] [], .fn J0s [] []]]⟩) = J0U o := by
  unfold Ja8 at h
  rcases J9 h with ⟨h1, h⟩ | ⟨h1, h⟩
  · obtain ⟨r2, h3, h⟩ := bi h
    have f4 := J8r p h3
    try simp only [Nf, Ji, Ja, Jd] at f4
    try simp only [↓Da, Ua, JJ, Ji, Ja, Jd, *, ↓reduceIte, Nat.reduceEqDiff, Nat.reduceAdd, Nat.reduceLT, Nat.reduceMul]
    rcases J9 h with ⟨h5, h⟩ | ⟨h5, h⟩
    · obtain ⟨r6, h7, h⟩ := bi h
      have f8 := Jgt p h7
      try simp only [Nf, Ji, Ja, Jd] at f8
      obtain rfl := sj h
      try simp only [↓Da, Ua, JJ, Ji, Ja, Jd, JB, *, ↓reduceIte, Nat.reduceEqDiff, Nat.reduceAdd, Nat.reduceLT, Nat.reduceMul]
      rfl
    · obtain rfl := sj h
      try simp only [↓Da, Ua, JJ, Ji, Ja, Jd, JB, *, ↓reduceIte, Nat.reduceEqDiff, Nat.reduceAdd, Nat.reduceLT, Nat.reduceMul]
      rfl
  · obtain rfl := sj h
    try simp only [↓Da, Ua, JJ, Ji, Ja, Jd, JB, *, ↓reduceIte, Nat.reduceEqDiff, Nat.reduceAdd, Nat.reduceLT, Nat.reduceMul]
    rfl
def J6b (x47 : Bool) (b0 : Jg) : Option (Bool) :=
  if x47 then
    some false
  else
    if ((b0.PrevPage : Int) != 0) then
      some false
    else
      if ((b0.Ref : Int) != 0) then
        some false
      else
        if (b0.Blob == []) then
          Ja8 b0
        else
          some false
theorem Ja4 {x47 : Bool} {b0 : Jg} {o : Bool} (h : J6b x47 b0 = some o) :
    rk (J1 p) J0u 0 [.bl 0, .sq (.keep [1, 3] JJ)] (X (J1 p) Jt ⟨[(1, .ptr 0 0), (3, .ptr 1 0), (47, .p (.b x47))], [.box (List.map AV.p (J7 b0)), .box [.p (.b true), .p (.b true), .p (.b false), .p (.b false), .p (.b false), .fn JD [] [], .fn J0s [] []]]⟩) = J0U o := by
  unfold J6b at h
  rcases J9 h with ⟨h1, h⟩ | ⟨h1, h⟩
  · obtain rfl := sj h
    try simp only [↓Da, Ua, Jt, Ji, Ja, Jd, JB, *, ↓reduceIte, Nat.reduceEqDiff, Nat.reduceAdd, Nat.reduceLT, Nat.reduceMul]
    rfl
  · try simp only [↓Da, Ua, Jt, Ji, Ja, Jd, *, ↓reduceIte, Nat.reduceEqDiff, Nat.reduceAdd, Nat.reduceLT, Nat.reduceMul]
    rcases J9 h with ⟨h2, h⟩ | ⟨h2, h⟩
    · obtain rfl := sj h
      try simp only [↓Da, Ua, Jt, Ji, Ja, Jd, JB, *, ↓reduceIte, Nat.reduceEqDiff, Nat.reduceAdd, Nat.reduceLT, Nat.reduceMul]
      rfl
    · try simp only [↓Da, Ua, Jt, Ji, Ja, Jd, *, ↓reduceIte, Nat.reduceEqDiff, Nat.reduceAdd, Nat.reduceLT, Nat.reduceMul]
      rcases J9 h with ⟨h3, h⟩ | ⟨h3, h⟩
      · obtain rfl := sj h
        try simp only [↓Da, Ua, Jt, Ji, Ja, Jd, JB, *, ↓reduceIte, Nat.reduceEqDiff, Nat.reduceAdd, Nat.reduceLT, Nat.reduceMul]
        rfl
      · try simp only [↓Da, Ua, Jt, Ji, Ja, Jd, *, ↓reduceIte, Nat.reduceEqDiff, Nat.reduceAdd, Nat.reduceLT, Nat.reduceMul]
        rcases J9 h with ⟨h4, h⟩ | ⟨h4, h⟩
        · try simp only [↓Da, Ua, Jt, Ji, Ja, Jd, *, ↓reduceIte, Nat.reduceEqDiff, Nat.reduceAdd, Nat.reduceLT, Nat.reduceMul]
          have e0 := Ji4 p h
          exact e0
        · obtain rfl := sj h
          try simp only [↓Da, Ua, Jt, Ji, Ja, Jd, JB, *, ↓reduceIte, Nat.reduceEqDiff, Nat.reduceAdd, Nat.reduceLT, Nat.reduceMul]
          rfl
def J6h (b0 : Jg) : Option (Bool) :=
  if (decide (b0.Tx < 1)) then
    J6b true b0
  else
    if (decide (b0.Tx > 1073741824)) then
      J6b true b0
    else
      J6b ((b0.PrevTx : Int) == 0) b0
theorem Jab {b0 : Jg} {o : Bool} (h : J6h b0 = some o) :
    rk (J1 p) J0u 0 [] (X (J1 p) J0k ⟨[(1, .ptr 0 0), (3, .ptr 1 0)], [.box (List.map AV.p (J7 b0)), .box [.p (.b true), .p (.b true), .p (.b false), .p (.b false), .p (.b false), .fn JD [] [], .fn J0s [] []]]⟩) = J0U o := by
  unfold J6h at h
  rcases J9 h with ⟨h1, h⟩ | ⟨h1, h⟩
  · try simp only [↓Da, Ua, J0k, Ji, Ja, Jd, *, ↓reduceIte, Nat.reduceEqDiff, Nat.reduceAdd, Nat.reduceLT, Nat.reduceMul]
    have e0 := Ja4 p h
    exact e0
  · try simp only [↓Da, Ua, J0k, Ji, Ja, Jd, *, ↓reduceIte, Nat.reduceEqDiff, Nat.reduceAdd, Nat.reduceLT, Nat.reduceMul]
    rcases J9 h with ⟨h2, h⟩ | ⟨h2, h⟩
    · try simp only [↓Da, Ua, J0k, Ji, Ja, Jd, *, ↓reduceIte, Nat.reduceEqDiff, Nat.reduceAdd, Nat.reduceLT, Nat.reduceMul]
      have e0 := Ja4 p h
      exact e0
    · try simp only [↓Da, Ua, J0k, Ji, Ja, Jd, *, ↓reduceIte, Nat.reduceEqDiff, Nat.reduceAdd, Nat.reduceLT, Nat.reduceMul]
      have e0 := Ja4 p h
      exact e0
def Ja2 (b0 : Jg) : Option (Bool) :=
  if (decide (((List.length b0.Blob : Nat) : Int) ≤ 8192)) then
    Option.bind (J2v b0) fun r2 =>
    if r2 then
      Option.bind (J8n b0.Change) fun r6 =>
      some r6
    else
      some false
  else
    some false
theorem JhC {b0 : Jg} {o : Bool} (h : Ja2 b0 = some o) :
    rk (J1 p) J0u 0 [] (X (J1 p) JJ ⟨[(1, .ptr 0 0), (3, .ptr 1 0)], [.box (List.map AV.p (J7 b0)), .box [.p (.b false), .p (.b false), .p (.b false), .p (.b false), .p (.b true), .fn JD [] [], .fn J0s [] []]]⟩) = J0U o := by
  unfold Ja2 at h
  rcases J9 h with ⟨h1, h⟩ | ⟨h1, h⟩
  · obtain ⟨r2, h3, h⟩ := bi h
    have f4 := J8r p h3
    try simp only [Nf, Ji, Ja, Jd] at f4
    try simp only [↓Da, Ua, JJ, Ji, Ja, Jd, *, ↓reduceIte, Nat.reduceEqDiff, Nat.reduceAdd, Nat.reduceLT, Nat.reduceMul]
    rcases J9 h with ⟨h5, h⟩ | ⟨h5, h⟩
    · obtain ⟨r6, h7, h⟩ := bi h
      have f8 := Jgt p h7
      try simp only [Nf, Ji, Ja, Jd] at f8
      obtain rfl := sj h
      try simp only [↓Da, Ua, JJ, Ji, Ja, Jd, JB, *, ↓reduceIte, Nat.reduceEqDiff, Nat.reduceAdd, Nat.reduceLT, Nat.reduceMul]
      rfl
    · obtain rfl := sj h
      try simp only [↓Da, Ua, JJ, Ji, Ja, Jd, JB, *, ↓reduceIte, Nat.reduceEqDiff, Nat.reduceAdd, Nat.reduceLT, Nat.reduceMul]
      rfl
  · obtain rfl := sj h
    try simp only [↓Da, Ua, JJ, Ji, Ja, Jd, JB, *, ↓reduceIte, Nat.reduceEqDiff, Nat.reduceAdd, Nat.reduceLT, Nat.reduceMul]
    rfl
def Ja7 (x47 : Bool) (b0 : Jg) : Option (Bool) :=
  if x47 then
    some false
  else
    if ((b0.Tx : Int) != 0) then
      some false
    else
      if ((b0.PrevTx : Int) != 0) then
        some false
      else
        if ((b0.PrevPage : Int) != 0) then
          some false
        else
          if ((b0.Ref : Int) != 0) then
            some false
          else
            Ja2 b0
theorem JhW {x47 : Bool} {b0 : Jg} {o : Bool} (h : Ja7 x47 b0 = some o) :
    rk (J1 p) J0u 0 [.bl 0, .sq (.keep [1, 3] JJ)] (X (J1 p) Jt ⟨[(1, .ptr 0 0), (3, .ptr 1 0), (47, .p (.b x47))], [.box (List.map AV.p (J7 b0)), .box [.p (.b false), .p (.b false), .p (.b false), .p (.b false), .p (.b true), .fn JD [] [], .fn J0s [] []]]⟩) = J0U o := by
  unfold Ja7 at h
  rcases J9 h with ⟨h1, h⟩ | ⟨h1, h⟩
  · obtain rfl := sj h
    try simp only [↓Da, Ua, Jt, Ji, Ja, Jd, JB, *, ↓reduceIte, Nat.reduceEqDiff, Nat.reduceAdd, Nat.reduceLT, Nat.reduceMul]
    rfl
  · try simp only [↓Da, Ua, Jt, Ji, Ja, Jd, *, ↓reduceIte, Nat.reduceEqDiff, Nat.reduceAdd, Nat.reduceLT, Nat.reduceMul]
    rcases J9 h with ⟨h2, h⟩ | ⟨h2, h⟩
    · obtain rfl := sj h
      try simp only [↓Da, Ua, Jt, Ji, Ja, Jd, JB, *, ↓reduceIte, Nat.reduceEqDiff, Nat.reduceAdd, Nat.reduceLT, Nat.reduceMul]
      rfl
    · try simp only [↓Da, Ua, Jt, Ji, Ja, Jd, *, ↓reduceIte, Nat.reduceEqDiff, Nat.reduceAdd, Nat.reduceLT, Nat.reduceMul]
      rcases J9 h with ⟨h3, h⟩ | ⟨h3, h⟩
      · obtain rfl := sj h
        try simp only [↓Da, Ua, Jt, Ji, Ja, Jd, JB, *, ↓reduceIte, Nat.reduceEqDiff, Nat.reduceAdd, Nat.reduceLT, Nat.reduceMul]
        rfl
      · try simp only [↓Da, Ua, Jt, Ji, Ja, Jd, *, ↓reduceIte, Nat.reduceEqDiff, Nat.reduceAdd, Nat.reduceLT, Nat.reduceMul]
        rcases J9 h with ⟨h4, h⟩ | ⟨h4, h⟩
        · obtain rfl := sj h
          try simp only [↓Da, Ua, Jt, Ji, Ja, Jd, JB, *, ↓reduceIte, Nat.reduceEqDiff, Nat.reduceAdd, Nat.reduceLT, Nat.reduceMul]
          rfl
        · try simp only [↓Da, Ua, Jt, Ji, Ja, Jd, *, ↓reduceIte, Nat.reduceEqDiff, Nat.reduceAdd, Nat.reduceLT, Nat.reduceMul]
          rcases J9 h with ⟨h5, h⟩ | ⟨h5, h⟩
          · obtain rfl := sj h
            try simp only [↓Da, Ua, Jt, Ji, Ja, Jd, JB, *, ↓reduceIte, Nat.reduceEqDiff, Nat.reduceAdd, Nat.reduceLT, Nat.reduceMul]
            rfl
          · try simp only [↓Da, Ua, Jt, Ji, Ja, Jd, *, ↓reduceIte, Nat.reduceEqDiff, Nat.reduceAdd, Nat.reduceLT, Nat.reduceMul]
            have e0 := JhC p h
            exact e0
def J83 (b0 : Jg) : Option (Bool) :=
  Ja7 false b0
theorem Jcf {b0 : Jg} {o : Bool} (h : J83 b0 = some o) :
    rk (J1 p) J0u 0 [] (X (J1 p) J0k ⟨[(1, .ptr 0 0), (3, .ptr 1 0)], [.box (List.map AV.p (J7 b0)), .box [.p (.b false), .p (.b false), .p (.b false), .p (.b false), .p (.b true), .fn JD [] [], .fn J0s [] []]]⟩) = J0U o := by
  unfold J83 at h
  try simp only [↓Da, Ua, J0k, ↓reduceIte, Nat.reduceEqDiff, Nat.reduceAdd, Nat.reduceLT, Nat.reduceMul]
  have e0 := JhW p h
  exact e0
def J7W (b0 : Jg) : Option (Bool) :=
  if (decide (((List.length b0.Blob : Nat) : Int) ≤ 8192)) then
    Option.bind (J2v b0) fun r2 =>
    if r2 then
      Option.bind (J5v b0.Change) fun r6 =>
      some r6
    else
      some false
  else
    some false
theorem Jht {b0 : Jg} {o : Bool} (h : J7W b0 = some o) :
    rk (J1 p) J0u 0 [] (X (J1 p) JJ ⟨[(1, .ptr 0 0), (3, .ptr 1 0)], [.box (List.map AV.p (J7 b0)), .box [.p (.b false), .p (.b false), .p (.b false), .p (.b true), .p (.b false), .fn JD [] [], .fn J1E [] []]]⟩) = J0U o := by
  unfold J7W at h
  rcases J9 h with ⟨h1, h⟩ | ⟨h1, h⟩
  · obtain ⟨r2, h3, h⟩ := bi h
    have f4 := J8r p h3
    try simp only [Nf, Ji, Ja, Jd] at f4
    try simp only [↓Da, Ua, JJ, Ji, Ja, Jd, *, ↓reduceIte, Nat.reduceEqDiff, Nat.reduceAdd, Nat.reduceLT, Nat.reduceMul]
    rcases J9 h with ⟨h5, h⟩ | ⟨h5, h⟩
    · obtain ⟨r6, h7, h⟩ := bi h
      have f8 := Jjv p h7
      try simp only [Nf, Ji, Ja, Jd] at f8
      obtain rfl := sj h
      try simp only [↓Da, Ua, JJ, Ji, Ja, Jd, JB, *, ↓reduceIte, Nat.reduceEqDiff, Nat.reduceAdd, Nat.reduceLT, Nat.reduceMul]
      rfl
    · obtain rfl := sj h
      try simp only [↓Da, Ua, JJ, Ji, Ja, Jd, JB, *, ↓reduceIte, Nat.reduceEqDiff, Nat.reduceAdd, Nat.reduceLT, Nat.reduceMul]
      rfl
  · obtain rfl := sj h
    try simp only [↓Da, Ua, JJ, Ji, Ja, Jd, JB, *, ↓reduceIte, Nat.reduceEqDiff, Nat.reduceAdd, Nat.reduceLT, Nat.reduceMul]
    rfl
def J84 (x47 : Bool) (b0 : Jg) : Option (Bool) :=
  if x47 then
    some false
  else
    if ((b0.Tx : Int) != 0) then
      some false
    else
      if ((b0.PrevTx : Int) != 0) then
        some false
      else
        if ((b0.PrevPage : Int) != 0) then
          some false
        else
          if (b0.Blob == []) then
            J7W b0
          else
            some false
theorem JhH {x47 : Bool} {b0 : Jg} {o : Bool} (h : J84 x47 b0 = some o) :
    rk (J1 p) J0u 0 [.bl 0, .sq (.keep [1, 3] JJ)] (X (J1 p) Jt ⟨[(1, .ptr 0 0), (3, .ptr 1 0), (47, .p (.b x47))], [.box (List.map AV.p (J7 b0)), .box [.p (.b false), .p (.b false), .p (.b false), .p (.b true), .p (.b false), .fn JD [] [], .fn J1E [] []]]⟩) = J0U o := by
  unfold J84 at h
  rcases J9 h with ⟨h1, h⟩ | ⟨h1, h⟩
  · obtain rfl := sj h
    try simp only [↓Da, Ua, Jt, Ji, Ja, Jd, JB, *, ↓reduceIte, Nat.reduceEqDiff, Nat.reduceAdd, Nat.reduceLT, Nat.reduceMul]
    rfl
  · try simp only [↓Da, Ua, Jt, Ji, Ja, Jd, *, ↓reduceIte, Nat.reduceEqDiff, Nat.reduceAdd, Nat.reduceLT, Nat.reduceMul]
    rcases J9 h with ⟨h2, h⟩ | ⟨h2, h⟩
    · obtain rfl := sj h
      try simp only [↓Da, Ua, Jt, Ji, Ja, Jd, JB, *, ↓reduceIte, Nat.reduceEqDiff, Nat.reduceAdd, Nat.reduceLT, Nat.reduceMul]
      rfl
    · try simp only [↓Da, Ua, Jt, Ji, Ja, Jd, *, ↓reduceIte, Nat.reduceEqDiff, Nat.reduceAdd, Nat.reduceLT, Nat.reduceMul]
      rcases J9 h with ⟨h3, h⟩ | ⟨h3, h⟩
      · obtain rfl := sj h
        try simp only [↓Da, Ua, Jt, Ji, Ja, Jd, JB, *, ↓reduceIte, Nat.reduceEqDiff, Nat.reduceAdd, Nat.reduceLT, Nat.reduceMul]
        rfl
      · try simp only [↓Da, Ua, Jt, Ji, Ja, Jd, *, ↓reduceIte, Nat.reduceEqDiff, Nat.reduceAdd, Nat.reduceLT, Nat.reduceMul]
        rcases J9 h with ⟨h4, h⟩ | ⟨h4, h⟩
        · obtain rfl := sj h
          try simp only [↓Da, Ua, Jt, Ji, Ja, Jd, JB, *, ↓reduceIte, Nat.reduceEqDiff, Nat.reduceAdd, Nat.reduceLT, Nat.reduceMul]
          rfl
        · try simp only [↓Da, Ua, Jt, Ji, Ja, Jd, *, ↓reduceIte, Nat.reduceEqDiff, Nat.reduceAdd, Nat.reduceLT, Nat.reduceMul]
          rcases J9 h with ⟨h5, h⟩ | ⟨h5, h⟩
          · try simp only [↓Da, Ua, Jt, Ji, Ja, Jd, *, ↓reduceIte, Nat.reduceEqDiff, Nat.reduceAdd, Nat.reduceLT, Nat.reduceMul]
            have e0 := Jht p h
            exact e0
          · obtain rfl := sj h
            try simp only [↓Da, Ua, Jt, Ji, Ja, Jd, JB, *, ↓reduceIte, Nat.reduceEqDiff, Nat.reduceAdd, Nat.reduceLT, Nat.reduceMul]
            rfl
def J7Z (b0 : Jg) : Option (Bool) :=
  J84 false b0
theorem Ji7 {b0 : Jg} {o : Bool} (h : J7Z b0 = some o) :
    rk (J1 p) J0u 0 [] (X (J1 p) J0k ⟨[(1, .ptr 0 0), (3, .ptr 1 0)], [.box (List.map AV.p (J7 b0)), .box [.p (.b false), .p (.b false), .p (.b false), .p (.b true), .p (.b false), .fn JD [] [], .fn J1E [] []]]⟩) = J0U o := by
  unfold J7Z at h
  try simp only [↓Da, Ua, J0k, ↓reduceIte, Nat.reduceEqDiff, Nat.reduceAdd, Nat.reduceLT, Nat.reduceMul]
  have e0 := JhH p h
  exact e0
def J65 (x0 : Jg) : Option (Bool) :=
  if (decide (x0.LSN < 1)) then
    some false
  else
    if (decide (x0.LSN > 1099511627776)) then
      some false
    else
      if (decide (x0.Kind < 1)) then
        some false
      else
        if (decide (x0.Kind > 8)) then
          some false
        else
          Option.bind (J4e x0.PrevTx x0) fun r5 =>
          if r5 then
            Option.bind (J4e x0.PrevPage x0) fun r9 =>
            if r9 then
              Option.bind (J4e x0.Ref x0) fun r13 =>
              if r13 then
                Option.bind (J7u) fun r17 =>
                if ((x0.Kind : Int) == 1) then
                  Jbk x0
                else
                  if ((x0.Kind : Int) == 2) then
                    Jaa x0
                  else
                    if ((x0.Kind : Int) == 3) then
                      J6h x0
                    else
                      if ((x0.Kind : Int) == 4) then
                        J6h x0
                      else
                        if ((x0.Kind : Int) == 5) then
                          J6h x0
                        else
                          if ((x0.Kind : Int) == 6) then
                            J83 x0
                          else
                            if ((x0.Kind : Int) == 7) then
                              J7Z x0
                            else
                              if ((x0.Kind : Int) == 8) then
                                J83 x0
                              else
                                none
              else
                some false
            else
              some false
          else
            some false
theorem Ji2 {x0 : Jg} {o : Bool} (h : J65 x0 = some o) :
    rk (J1 p) J0u 0 [] (X (J1 p) JU ⟨[(0, .data (J7 x0))], []⟩) = J0U o := by
  unfold J65 at h
  rcases J9 h with ⟨h1, h⟩ | ⟨h1, h⟩
  · obtain rfl := sj h
    try simp only [↓Da, Ua, Ra, JU, Ji, Ja, Jd, JB, *, ↓reduceIte, Nat.reduceEqDiff, Nat.reduceAdd, Nat.reduceLT, Nat.reduceMul, Nat.reduceBEq]
    rfl
  · try simp only [↓Da, Ua, Ra, JU, Ji, Ja, Jd, *, ↓reduceIte, Nat.reduceEqDiff, Nat.reduceAdd, Nat.reduceLT, Nat.reduceMul, Nat.reduceBEq]
    rcases J9 h with ⟨h2, h⟩ | ⟨h2, h⟩
    · obtain rfl := sj h
      try simp only [↓Da, Ua, Ra, JU, Ji, Ja, Jd, JB, *, ↓reduceIte, Nat.reduceEqDiff, Nat.reduceAdd, Nat.reduceLT, Nat.reduceMul, Nat.reduceBEq]
      rfl
    · try simp only [↓Da, Ua, Ra, JU, Ji, Ja, Jd, *, ↓reduceIte, Nat.reduceEqDiff, Nat.reduceAdd, Nat.reduceLT, Nat.reduceMul, Nat.reduceBEq]
      rcases J9 h with ⟨h3, h⟩ | ⟨h3, h⟩
      · obtain rfl := sj h
        try simp only [↓Da, Ua, Ra, JU, Ji, Ja, Jd, JB, *, ↓reduceIte, Nat.reduceEqDiff, Nat.reduceAdd, Nat.reduceLT, Nat.reduceMul, Nat.reduceBEq]
        rfl
      · try simp only [↓Da, Ua, Ra, JU, Ji, Ja, Jd, *, ↓reduceIte, Nat.reduceEqDiff, Nat.reduceAdd, Nat.reduceLT, Nat.reduceMul, Nat.reduceBEq]
        rcases J9 h with ⟨h4, h⟩ | ⟨h4, h⟩
        · obtain rfl := sj h
          try simp only [↓Da, Ua, Ra, JU, Ji, Ja, Jd, JB, *, ↓reduceIte, Nat.reduceEqDiff, Nat.reduceAdd, Nat.reduceLT, Nat.reduceMul, Nat.reduceBEq]
          rfl
        · obtain ⟨r5, h6, h⟩ := bi h
          have f7 := Jbz p h6
          try simp only [Nf, Ji, Ja, Jd] at f7
          try simp only [↓Da, Ua, Ra, JU, Ji, Ja, Jd, *, ↓reduceIte, Nat.reduceEqDiff, Nat.reduceAdd, Nat.reduceLT, Nat.reduceMul, Nat.reduceBEq]
          rcases J9 h with ⟨h8, h⟩ | ⟨h8, h⟩
          · obtain ⟨r9, h10, h⟩ := bi h
            have f11 := Jbz p h10
            try simp only [Nf, Ji, Ja, Jd] at f11
            try simp only [↓Da, Ua, Ra, JU, Ji, Ja, Jd, *, ↓reduceIte, Nat.reduceEqDiff, Nat.reduceAdd, Nat.reduceLT, Nat.reduceMul, Nat.reduceBEq]
            rcases J9 h with ⟨h12, h⟩ | ⟨h12, h⟩
            · obtain ⟨r13, h14, h⟩ := bi h
              have f15 := Jbz p h14
              try simp only [Nf, Ji, Ja, Jd] at f15
              try simp only [↓Da, Ua, Ra, JU, Ji, Ja, Jd, *, ↓reduceIte, Nat.reduceEqDiff, Nat.reduceAdd, Nat.reduceLT, Nat.reduceMul, Nat.reduceBEq]
              rcases J9 h with ⟨h16, h⟩ | ⟨h16, h⟩
              · obtain ⟨r17, h18, h⟩ := bi h
                have f19 := Jn5 p h18
                try simp only [Nf, Ji, Ja, Jd] at f19
                have f20 : ∀ ws k new s, Jm ((Jq (AF (J1 p)) J60 ([], ws) k new).reads s) = [] := J1x rfl
                try simp only [Nf, Ji, Ja, Jd] at f20
                try simp only [↓Da, Ua, Ra, JU, Ji, Ja, Jd, *, ↓reduceIte, Nat.reduceEqDiff, Nat.reduceAdd, Nat.reduceLT, Nat.reduceMul, Nat.reduceBEq]
                rcases J9 h with ⟨h21, h⟩ | ⟨h21, h⟩
                · have h21n : ((x0.Kind : Int) != 1) = false := by rw [bne, h21]; rfl
                  have h21k : x0.Kind = 1 := by simpa using h21
                  have f22 : (0 ≤ (x0.Kind : Int) ∧ (x0.Kind : Int) < ((9 : Nat) : Int)) = True := by rw [h21k]; decide
                  have f23 : Int.toNat x0.Kind * 7 = 7 := by rw [h21k]; rfl
                  clear h21k
                  try simp only [↓Da, Ua, Ra, JU, Ji, Ja, Jd, *, ↓reduceIte, Nat.reduceEqDiff, Nat.reduceAdd, Nat.reduceLT, Nat.reduceMul, Nat.reduceBEq]
                  have e0 := Jkp p h
                  exact e0
                · have h21n : ((x0.Kind : Int) != 1) = true := by rw [bne, h21]; rfl
                  try simp only [↓Da, Ua, Ra, JU, Ji, Ja, Jd, *, ↓reduceIte, Nat.reduceEqDiff, Nat.reduceAdd, Nat.reduceLT, Nat.reduceMul, Nat.reduceBEq]
                  rcases J9 h with ⟨h24, h⟩ | ⟨h24, h⟩
                  · have h24n : ((x0.Kind : Int) != 2) = false := by rw [bne, h24]; rfl
                    have h24k : x0.Kind = 2 := by simpa using h24
                    have f25 : (0 ≤ (x0.Kind : Int) ∧ (x0.Kind : Int) < ((9 : Nat) : Int)) = True := by rw [h24k]; decide
                    have f26 : Int.toNat x0.Kind * 7 = 14 := by rw [h24k]; rfl
                    clear h24k
                    try simp only [↓Da, Ua, Ra, JU, Ji, Ja, Jd, *, ↓reduceIte, Nat.reduceEqDiff, Nat.reduceAdd, Nat.reduceLT, Nat.reduceMul, Nat.reduceBEq]
                    have e0 := JhO p h
                    exact e0
                  · have h24n : ((x0.Kind : Int) != 2) = true := by rw [bne, h24]; rfl
                    try simp only [↓Da, Ua, Ra, JU, Ji, Ja, Jd, *, ↓reduceIte, Nat.reduceEqDiff, Nat.reduceAdd, Nat.reduceLT, Nat.reduceMul, Nat.reduceBEq]
                    rcases J9 h with ⟨h27, h⟩ | ⟨h27, h⟩
                    · have h27n : ((x0.Kind : Int) != 3) = false := by rw [bne, h27]; rfl
                      have h27k : x0.Kind = 3 := by simpa using h27
                      have f28 : (0 ≤ (x0.Kind : Int) ∧ (x0.Kind : Int) < ((9 : Nat) : Int)) = True := by rw [h27k]; decide
                      have f29 : Int.toNat x0.Kind * 7 = 21 := by rw [h27k]; rfl
                      clear h27k
                      try simp only [↓Da, Ua, Ra, JU, Ji, Ja, Jd, *, ↓reduceIte, Nat.reduceEqDiff, Nat.reduceAdd, Nat.reduceLT, Nat.reduceMul, Nat.reduceBEq]
                      have e0 := Jab p h
                      exact e0
                    · have h27n : ((x0.Kind : Int) != 3) = true := by rw [bne, h27]; rfl
                      try simp only [↓Da, Ua, Ra, JU, Ji, Ja, Jd, *, ↓reduceIte, Nat.reduceEqDiff, Nat.reduceAdd, Nat.reduceLT, Nat.reduceMul, Nat.reduceBEq]
                      rcases J9 h with ⟨h30, h⟩ | ⟨h30, h⟩
                      · have h30n : ((x0.Kind : Int) != 4) = false := by rw [bne, h30]; rfl
                        have h30k : x0.Kind = 4 := by simpa using h30
                        have f31 : (0 ≤ (x0.Kind : Int) ∧ (x0.Kind : Int) < ((9 : Nat) : Int)) = True := by rw [h30k]; decide
                        have f32 : Int.toNat x0.Kind * 7 = 28 := by rw [h30k]; rfl
                        clear h30k
                        try simp only [↓Da, Ua, Ra, JU, Ji, Ja, Jd, *, ↓reduceIte, Nat.reduceEqDiff, Nat.reduceAdd, Nat.reduceLT, Nat.reduceMul, Nat.reduceBEq]
                        have e0 := Jab p h
                        exact e0
                      · have h30n : ((x0.Kind : Int) != 4) = true := by rw [bne, h30]; rfl
                        try simp only [↓Da, Ua, Ra, JU, Ji, Ja, Jd, *, ↓reduceIte, Nat.reduceEqDiff, Nat.reduceAdd, Nat.reduceLT, Nat.reduceMul, Nat.reduceBEq]
                        rcases J9 h with ⟨h33, h⟩ | ⟨h33, h⟩
                        · have h33n : ((x0.Kind : Int) != 5) = false := by rw [bne, h33]; rfl
                          have h33k : x0.Kind = 5 := by simpa using h33
                          have f34 : (0 ≤ (x0.Kind : Int) ∧ (x0.Kind : Int) < ((9 : Nat) : Int)) = True := by rw [h33k]; decide
                          have f35 : Int.toNat x0.Kind * 7 = 35 := by rw [h33k]; rfl
                          clear h33k
                          try simp only [↓Da, Ua, Ra, JU, Ji, Ja, Jd, *, ↓reduceIte, Nat.reduceEqDiff, Nat.reduceAdd, Nat.reduceLT, Nat.reduceMul, Nat.reduceBEq]
                          have e0 := Jab p h
                          exact e0
                        · have h33n : ((x0.Kind : Int) != 5) = true := by rw [bne, h33]; rfl
                          try simp only [↓Da, Ua, Ra, JU, Ji, Ja, Jd, *, ↓reduceIte, Nat.reduceEqDiff, Nat.reduceAdd, Nat.reduceLT, Nat.reduceMul, Nat.reduceBEq]
                          rcases J9 h with ⟨h36, h⟩ | ⟨h36, h⟩
                          · have h36n : ((x0.Kind : Int) != 6) = false := by rw [bne, h36]; rfl
                            have h36k : x0.Kind = 6 := by simpa using h36
                            have f37 : (0 ≤ (x0.Kind : Int) ∧ (x0.Kind : Int) < ((9 : Nat) : Int)) = True := by rw [h36k]; decide
                            have f38 : Int.toNat x0.Kind * 7 = 42 := by rw [h36k]; rfl
                            clear h36k
                            try simp only [↓Da, Ua, Ra, JU, Ji, Ja, Jd, *, ↓reduceIte, Nat.reduceEqDiff, Nat.reduceAdd, Nat.reduceLT, Nat.reduceMul, Nat.reduceBEq]
                            have e0 := Jcf p h
                            exact e0
                          · have h36n : ((x0.Kind : Int) != 6) = true := by rw [bne, h36]; rfl
                            try simp only [↓Da, Ua, Ra, JU, Ji, Ja, Jd, *, ↓reduceIte, Nat.reduceEqDiff, Nat.reduceAdd, Nat.reduceLT, Nat.reduceMul, Nat.reduceBEq]
                            rcases J9 h with ⟨h39, h⟩ | ⟨h39, h⟩
                            · have h39n : ((x0.Kind : Int) != 7) = false := by rw [bne, h39]; rfl
                              have h39k : x0.Kind = 7 := by simpa using h39
                              have f40 : (0 ≤ (x0.Kind : Int) ∧ (x0.Kind : Int) < ((9 : Nat) : Int)) = True := by rw [h39k]; decide
                              have f41 : Int.toNat x0.Kind * 7 = 49 := by rw [h39k]; rfl
                              clear h39k
                              try simp only [↓Da, Ua, Ra, JU, Ji, Ja, Jd, *, ↓reduceIte, Nat.reduceEqDiff, Nat.reduceAdd, Nat.reduceLT, Nat.reduceMul, Nat.reduceBEq]
                              have e0 := Ji7 p h
                              exact e0
                            · have h39n : ((x0.Kind : Int) != 7) = true := by rw [bne, h39]; rfl
                              try simp only [↓Da, Ua, Ra, JU, Ji, Ja, Jd, *, ↓reduceIte, Nat.reduceEqDiff, Nat.reduceAdd, Nat.reduceLT, Nat.reduceMul, Nat.reduceBEq]
                              rcases J9 h with ⟨h42, h⟩ | ⟨h42, h⟩
                              · have h42n : ((x0.Kind : Int) != 8) = false := by rw [bne, h42]; rfl
                                have h42k : x0.Kind = 8 := by simpa using h42
                                have f43 : (0 ≤ (x0.Kind : Int) ∧ (x0.Kind : Int) < ((9 : Nat) : Int)) = True := by rw [h42k]; decide
                                have f44 : Int.toNat x0.Kind * 7 = 56 := by rw [h42k]; rfl
                                clear h42k
                                try simp only [↓Da, Ua, Ra, JU, Ji, Ja, Jd, *, ↓reduceIte, Nat.reduceEqDiff, Nat.reduceAdd, Nat.reduceLT, Nat.reduceMul, Nat.reduceBEq]
                                have e0 := Jcf p h
                                exact e0
                              · have h42n : ((x0.Kind : Int) != 8) = true := by rw [bne, h42]; rfl
                                cases h
              · obtain rfl := sj h
                try simp only [↓Da, Ua, Ra, JU, Ji, Ja, Jd, JB, *, ↓reduceIte, Nat.reduceEqDiff, Nat.reduceAdd, Nat.reduceLT, Nat.reduceMul, Nat.reduceBEq]
                rfl
            · obtain rfl := sj h
              try simp only [↓Da, Ua, Ra, JU, Ji, Ja, Jd, JB, *, ↓reduceIte, Nat.reduceEqDiff, Nat.reduceAdd, Nat.reduceLT, Nat.reduceMul, Nat.reduceBEq]
              rfl
          · obtain rfl := sj h
            try simp only [↓Da, Ua, Ra, JU, Ji, Ja, Jd, JB, *, ↓reduceIte, Nat.reduceEqDiff, Nat.reduceAdd, Nat.reduceLT, Nat.reduceMul, Nat.reduceBEq]
            rfl
theorem JmU {x0 : Jg} {o : Bool} (h : J65 x0 = some o) : AF (J1 p) J7e [.data (J7 x0)] [] = J0U o :=
  (J0j (J1 p) (JmP p) rfl).trans (Ji2 p h)
theorem JmM {x0 : Jg} {o : Bool} (h : J65 x0 = some o) : ∀ ws new st, (Jq (AF (J1 p)) J7e ([.data (J7 x0)], ws) 0 new).run st = some ⟨.p (.b o), ws⟩ := Jz rfl (JmU p h) rfl
end
end Go.Am
end
section
namespace Go.Am
set_option maxRecDepth 8000
set_option maxHeartbeats 4000000
set_option linter.unusedSimpArgs false
set_option linter.unusedVariables false
noncomputable section
variable (p : FuncId → Option (List AV → List Blk → Option Res))
def Jfz  (r : T_api_Page × Int) : Option Res := some (.tup [.data (J4 r.1), .p (.i .i64 r.2)], [])
def J1O (x0 : List UInt8) : Option (T_api_Page × Int) :=
  if ((((List.length x0 : Nat) : Int) : Int) != 256) then
    some ((⟨0, 0, (Vector.replicate 16 (⟨false, []⟩ : J8))⟩ : T_api_Page), 2)
  else
    Option.bind (J6S) fun r2 =>
    if (x0 == r2) then
      some ((⟨0, 0, (Vector.replicate 16 (⟨false, []⟩ : J8))⟩ : T_api_Page), 7)
    else
      Option.bind (J34 x0 none (some 8)) fun m6 =>
      Option.bind (J34 x0 (some 248) none) fun m9 =>
      if (m6 == m9) then
        Option.bind (J09 x0 244 4) fun r13 =>
        Option.bind (J34 x0 none (some 244)) fun m16 =>
        Option.bind (J3f m16) fun r19 =>
        if ((r13 : Int) != (IntKind.wrap .i64 r19)) then
          some ((⟨0, 0, (Vector.replicate 16 (⟨false, []⟩ : J8))⟩ : T_api_Page), 3)
        else
          Option.bind (J6p x0) fun r23 =>
          Option.bind (J1l r23.1) fun r26 =>
          if r23.2 then
            if ((r26.2 : Int) != 0) then
              some ((⟨0, 0, (Vector.replicate 16 (⟨false, []⟩ : J8))⟩ : T_api_Page), 4)
            else
              if (r26.1 == x0) then
                some (r23.1, 0)
              else
                some ((⟨0, 0, (Vector.replicate 16 (⟨false, []⟩ : J8))⟩ : T_api_Page), 4)
          else
            some ((⟨0, 0, (Vector.replicate 16 (⟨false, []⟩ : J8))⟩ : T_api_Page), 4)
      else
        some ((⟨0, 0, (Vector.replicate 16 (⟨false, []⟩ : J8))⟩ : T_api_Page), 27)
theorem Ji9 {x0 : List UInt8} {o : T_api_Page × Int} (h : J1O x0 = some o) :
    rk (J1 p) J75 0 [] (X (J1 p) J0J ⟨[(0, .p (.s x0))], []⟩) = Jfz o := by
  unfold J1O at h
  rcases J9 h with ⟨h1, h⟩ | ⟨h1, h⟩
  · obtain rfl := sj h
    try simp only [↓Da, Ua, J0J, J3, J2, J6, J50, *, ↓reduceIte, Nat.reduceEqDiff, Nat.reduceAdd, Nat.reduceLT, Nat.reduceMul]
    rfl
  · obtain ⟨r2, h3, h⟩ := bi h
    have f4 := Jo5 p h3
    try simp only [Nf] at f4
    try simp only [↓Da, Ua, J0J, J3, J2, J6, *, ↓reduceIte, Nat.reduceEqDiff, Nat.reduceAdd, Nat.reduceLT, Nat.reduceMul]
    rcases J9 h with ⟨h5, h⟩ | ⟨h5, h⟩
    · obtain rfl := sj h
      try simp only [↓Da, Ua, J0J, J3, J2, J6, J50, *, ↓reduceIte, Nat.reduceEqDiff, Nat.reduceAdd, Nat.reduceLT, Nat.reduceMul]
      rfl
    · obtain ⟨m6, h7, h⟩ := bi h
      have f8 : J36 (.p (.s x0)) none (some (.p (.i .i64 8))) = some (.p (.s m6)) := J4c (k := .i64) (lo := none) (hi := (some 8)) h7
      try simp only [Nf] at f8
      obtain ⟨m9, h10, h⟩ := bi h
      have f11 : J36 (.p (.s x0)) (some (.p (.i .i64 248))) none = some (.p (.s m9)) := J4c (k := .i64) (lo := (some 248)) (hi := none) h10
      try simp only [Nf] at f11
      try simp only [↓Da, Ua, J0J, J3, J2, J6, *, ↓reduceIte, Nat.reduceEqDiff, Nat.reduceAdd, Nat.reduceLT, Nat.reduceMul]
      rcases J9 h with ⟨h12, h⟩ | ⟨h12, h⟩
      · obtain ⟨r13, h14, h⟩ := bi h
        have f15 := Jay p h14
        try simp only [Nf] at f15
        obtain ⟨m16, h17, h⟩ := bi h
        have f18 : J36 (.p (.s x0)) none (some (.p (.i .i64 244))) = some (.p (.s m16)) := J4c (k := .i64) (lo := none) (hi := (some 244)) h17
        try simp only [Nf] at f18
        obtain ⟨r19, h20, h⟩ := bi h
        have f21 := Jih p h20
        try simp only [Nf] at f21
        try simp only [↓Da, Ua, J0J, J3, J2, J6, *, ↓reduceIte, Nat.reduceEqDiff, Nat.reduceAdd, Nat.reduceLT, Nat.reduceMul]
        rcases J9 h with ⟨h22, h⟩ | ⟨h22, h⟩
        · obtain rfl := sj h
          try simp only [↓Da, Ua, J0J, J3, J2, J6, J50, *, ↓reduceIte, Nat.reduceEqDiff, Nat.reduceAdd, Nat.reduceLT, Nat.reduceMul]
          rfl
        · obtain ⟨r23, h24, h⟩ := bi h
          have f25 := JoU p h24
          try simp only [Nf] at f25
          obtain ⟨r26, h27, h⟩ := bi h
          have f28 := Jnd p h27
          try simp only [Nf] at f28
          try simp only [↓Da, Ua, J0J, J3, J2, J6, *, ↓reduceIte, Nat.reduceEqDiff, Nat.reduceAdd, Nat.reduceLT, Nat.reduceMul]
          rcases J9 h with ⟨h29, h⟩ | ⟨h29, h⟩
          · try simp only [↓Da, Ua, J0J, J3, J2, J6, *, ↓reduceIte, Nat.reduceEqDiff, Nat.reduceAdd, Nat.reduceLT, Nat.reduceMul]
            rcases J9 h with ⟨h30, h⟩ | ⟨h30, h⟩
            · obtain rfl := sj h
              try simp only [↓Da, Ua, J0J, J3, J2, J6, J50, *, ↓reduceIte, Nat.reduceEqDiff, Nat.reduceAdd, Nat.reduceLT, Nat.reduceMul]
              rfl
            · try simp only [↓Da, Ua, J0J, J3, J2, J6, *, ↓reduceIte, Nat.reduceEqDiff, Nat.reduceAdd, Nat.reduceLT, Nat.reduceMul]
              rcases J9 h with ⟨h31, h⟩ | ⟨h31, h⟩
              · obtain rfl := sj h
                try simp only [↓Da, Ua, J0J, J3, J2, J6, J50, *, ↓reduceIte, Nat.reduceEqDiff, Nat.reduceAdd, Nat.reduceLT, Nat.reduceMul]
                rfl
              · obtain rfl := sj h
                try simp only [↓Da, Ua, J0J, J3, J2, J6, J50, *, ↓reduceIte, Nat.reduceEqDiff, Nat.reduceAdd, Nat.reduceLT, Nat.reduceMul]
                rfl
          · obtain rfl := sj h
            try simp only [↓Da, Ua, J0J, J3, J2, J6, J50, *, ↓reduceIte, Nat.reduceEqDiff, Nat.reduceAdd, Nat.reduceLT, Nat.reduceMul]
            rfl
      · obtain rfl := sj h
        try simp only [↓Da, Ua, J0J, J3, J2, J6, J50, *, ↓reduceIte, Nat.reduceEqDiff, Nat.reduceAdd, Nat.reduceLT, Nat.reduceMul]
        rfl
theorem JmG {x0 : List UInt8} {o : T_api_Page × Int} (h : J1O x0 = some o) : AF (J1 p) J70 [.p (.s x0)] [] = Jfz o :=
  (J0j (J1 p) (Jn9 p) rfl).trans (Ji9 p h)
theorem JmT {x0 : List UInt8} {o : T_api_Page × Int} (h : J1O x0 = some o) : ∀ ws new st, (Jq (AF (J1 p)) J70 ([.p (.s x0)], ws) 0 new).run st = some ⟨.tup [.data (J4 o.1), .p (.i .i64 o.2)], ws⟩ := Jz rfl (JmG p h) rfl
def J6F  (r : (List UInt8) × Int) : Option Res := some (.tup [.p (.s r.1), .p (.i .i64 r.2)], [])
def JaF (b0 : T_api_Page) (o : ((List UInt8) × Int) ⊕ ((List UInt8) × Int)) : Option Res := match o with
  | .inl s => rk (J1 p) J1B 0 [.bl 0, .sq (.keep [1, 5] J2y)] (X (J1 p) (.lp 1 [1, 5, 6] J1m) ⟨[(1, .ptr 0 0), (5, .p (.s s.1)), (6, .p (.i .i64 s.2))], [.box (List.map AV.p (J4 b0))]⟩)
  | .inr o => J6F o
def J8v (x5 : List UInt8) (x6 : Int) (b0 : T_api_Page) : Option ((((List UInt8) × Int) ⊕ ((List UInt8) × Int))) :=
  some (.inl (x5, (IntKind.wrap .i64 (x6 + 1))))
theorem Jju {x5 : List UInt8} {x6 : Int} {b0 : T_api_Page} {o : (((List UInt8) × Int) ⊕ ((List UInt8) × Int))} (h : J8v x5 x6 b0 = some o) :
    rk (J1 p) J1B 0 [.lo 1 [1, 5, 6] J1m, .bl 0, .sq (.keep [1, 5] J2y)] (X (J1 p) J8D ⟨[(1, .ptr 0 0), (5, .p (.s x5)), (6, .p (.i .i64 x6))], [.box (List.map AV.p (J4 b0))]⟩) = (JaF p b0) o := by
  unfold J8v at h
  obtain rfl := sj h
  try simp only [↓Da, Ua, J8D, ↓reduceIte, Nat.reduceEqDiff, Nat.reduceAdd, Nat.reduceLT, Nat.reduceMul]
  rfl
def J5r (x5 : List UInt8) (x6 : Int) (x7 : Int) (b0 : T_api_Page) : Option ((((List UInt8) × Int) ⊕ ((List UInt8) × Int))) :=
  Option.bind (J1K x5 x7 1) fun r1 =>
  Option.bind (inb 16 x6) fun u4 =>
  Option.bind (J6Z b0.Cells x6) fun y7 =>
  Option.bind (J2I (IntKind.wrap .i64 (12 - ((List.length y7.Data : Nat) : Int)))) fun r11 =>
  Option.bind (J4a y7.Data r11) fun s15 =>
  Option.bind (J4a r1 s15) fun s17 =>
  J8v s17 x6 b0
theorem JcK {x5 : List UInt8} {x6 : Int} {x7 : Int} {b0 : T_api_Page} {o : (((List UInt8) × Int) ⊕ ((List UInt8) × Int))} (h : J5r x5 x6 x7 b0 = some o) :
    rk (J1 p) J1B 0 [.bl 1, .sq (.keep [1, 5, 6] J8D), .lo 1 [1, 5, 6] J1m, .bl 0, .sq (.keep [1, 5] J2y)] (X (J1 p) JaA ⟨[(1, .ptr 0 0), (5, .p (.s x5)), (6, .p (.i .i64 x6)), (7, .p (.i .i64 x7))], [.box (List.map AV.p (J4 b0))]⟩) = (JaF p b0) o := by
  unfold J5r at h
  obtain ⟨r1, h2, h⟩ := bi h
  have f3 := Jaf p h2
  try simp only [Nf] at f3
  obtain ⟨u4, h5, h⟩ := bi h
  have f6 : (0 ≤ (x6 : Int) ∧ (x6 : Int) < ((16 : Nat) : Int)) = True := eq_true (J8h h5)
  obtain ⟨y7, h8, h⟩ := bi h
  have f9 : sub (J4 b0) ((2 + Int.toNat x6 * 2) + 1) 1 = some (r_s y7.Data) := by
    have e0 := (J6z (J6z (J1v b0) (J7y (v := b0.Cells) JI (J3a h8).2)) (J7X y7))
    exact e0
  try simp only [Nf] at f9
  have f10 : sub (J4 b0) ((2 + Int.toNat x6 * 2) + 1) 1 = some (r_s y7.Data) := by
    have e0 := (J6z (J6z (J1v b0) (J7y (v := b0.Cells) JI (J3a h8).2)) (J7X y7))
    exact e0
  try simp only [Nf] at f10
  obtain ⟨r11, h12, h⟩ := bi h
  have f13 := Jc5 p h12
  try simp only [Nf] at f13
  have f14 : ∀ ws k new s, Jm ((Jq (AF (J1 p)) J43 ([.p (.i .i64 (IntKind.wrap .i64 (12 - ((List.length y7.Data : Nat) : Int))))], ws) k new).reads s) = [] := J1x rfl
  try simp only [Nf] at f14
  obtain ⟨s15, h16, h⟩ := bi h
  obtain ⟨s17, h18, h⟩ := bi h
  try simp only [↓Da, Ua, Ra, JaA, J3, J2, J6, *, ↓reduceIte, Nat.reduceEqDiff, Nat.reduceAdd, Nat.reduceLT, Nat.reduceMul, Nat.reduceBEq]
  have e0 := Jju p h
  exact e0
def J8F (x5 : List UInt8) (b0 : T_api_Page) : Option ((List UInt8) × Int) :=
  Option.bind (J2I (IntKind.wrap .i64 (244 - ((List.length x5 : Nat) : Int)))) fun r1 =>
  Option.bind (J4a x5 r1) fun s4 =>
  Option.bind (J7O s4) fun r6 =>
  Option.bind (J1K s4 (IntKind.wrap .i64 r6) 4) fun r9 =>
  Option.bind (J1K r9 b0.LSN 8) fun r12 =>
  some (r12, 0)
theorem JiE {x5 : List UInt8} {b0 : T_api_Page} {o : (List UInt8) × Int} (h : J8F x5 b0 = some o) :
    rk (J1 p) J1B 0 [] (X (J1 p) J2y ⟨[(1, .ptr 0 0), (5, .p (.s x5))], [.box (List.map AV.p (J4 b0))]⟩) = J6F o := by
  unfold J8F at h
  obtain ⟨r1, h2, h⟩ := bi h
  have f3 := Jc5 p h2
  try simp only [Nf] at f3
  obtain ⟨s4, h5, h⟩ := bi h
  obtain ⟨r6, h7, h⟩ := bi h
  have f8 := Jix p h7
  try simp only [Nf] at f8
  obtain ⟨r9, h10, h⟩ := bi h
  have f11 := Jaf p h10
  try simp only [Nf] at f11
  obtain ⟨r12, h13, h⟩ := bi h
  have f14 := Jaf p h13
  try simp only [Nf] at f14
  obtain rfl := sj h
  try simp only [↓Da, Ua, J2y, J3, J2, J6, Jeq, *, ↓reduceIte, Nat.reduceEqDiff, Nat.reduceAdd, Nat.reduceLT, Nat.reduceMul]
  rfl
def J45 (b0 : T_api_Page) (x5 : List UInt8) (x6 : Int) : Option ((((List UInt8) × Int) ⊕ ((List UInt8) × Int))) :=
  if (decide (x6 < 16)) then
    Option.bind (inb 16 x6) fun u2 =>
    Option.bind (J6Z b0.Cells x6) fun y5 =>
    if y5.Set then
      J5r x5 x6 ((List.length y5.Data : Nat) : Int) b0
    else
      J5r x5 x6 255 b0
  else
    Option.map (fun o => .inr o) (J8F x5 b0)
theorem JcP {b0 : T_api_Page} {x5 : List UInt8} {x6 : Int} {o : (((List UInt8) × Int) ⊕ ((List UInt8) × Int))} (h : J45 b0 x5 x6 = some o) :
    rk (J1 p) J1B 0 [.lo 1 [1, 5, 6] J1m, .bl 0, .sq (.keep [1, 5] J2y)] (X (J1 p) J1m ⟨[(1, .ptr 0 0), (5, .p (.s x5)), (6, .p (.i .i64 x6))], [.box (List.map AV.p (J4 b0))]⟩) = (JaF p b0) o := by
  unfold J45 at h
  rcases J9 h with ⟨h1, h⟩ | ⟨h1, h⟩
  · obtain ⟨u2, h3, h⟩ := bi h
    have f4 : (0 ≤ (x6 : Int) ∧ (x6 : Int) < ((16 : Nat) : Int)) = True := eq_true (J8h h3)
    obtain ⟨y5, h6, h⟩ := bi h
    have f7 : sub (J4 b0) (2 + Int.toNat x6 * 2) 1 = some (r_b y5.Set) := by
      have e0 := (J6z (J6z (J1v b0) (J7y (v := b0.Cells) JI (J3a h6).2)) (JaK y5))
      exact e0
    try simp only [Nf] at f7
    try simp only [↓Da, Ua, J1m, J3, J2, J6, *, ↓reduceIte, Nat.reduceEqDiff, Nat.reduceAdd, Nat.reduceLT, Nat.reduceMul]
    rcases J9 h with ⟨h8, h⟩ | ⟨h8, h⟩
    · have f9 : sub (J4 b0) ((2 + Int.toNat x6 * 2) + 1) 1 = some (r_s y5.Data) := by
        have e0 := (J6z (J6z (J1v b0) (J7y (v := b0.Cells) JI (J3a h6).2)) (J7X y5))
        exact e0
      try simp only [Nf] at f9
      try simp only [↓Da, Ua, J1m, J3, J2, J6, *, ↓reduceIte, Nat.reduceEqDiff, Nat.reduceAdd, Nat.reduceLT, Nat.reduceMul]
      have e0 := JcK p h
      exact e0
    · try simp only [↓Da, Ua, J1m, J3, J2, J6, *, ↓reduceIte, Nat.reduceEqDiff, Nat.reduceAdd, Nat.reduceLT, Nat.reduceMul]
      have e0 := JcK p h
      exact e0
  · obtain ⟨o', h', rfl⟩ := mi h
    try simp only [↓Da, Ua, J1m, J3, J2, J6, *, ↓reduceIte, Nat.reduceEqDiff, Nat.reduceAdd, Nat.reduceLT, Nat.reduceMul]
    have e0 := JiE p h'
    exact e0
def Jd7 (b0 : T_api_Page) (s : (List UInt8) × Int) : Option ((List UInt8) × Int) :=
  JK (fun s => J45 b0 s.1 s.2) s
theorem JgV {b0 : T_api_Page} {s : (List UInt8) × Int} {o : (List UInt8) × Int} (h : Jd7 b0 s = some o) :
    rk (J1 p) J1B 0 [.bl 0, .sq (.keep [1, 5] J2y)] (X (J1 p) (.lp 1 [1, 5, 6] J1m) ⟨[(1, .ptr 0 0), (5, .p (.s s.1)), (6, .p (.i .i64 s.2))], [.box (List.map AV.p (J4 b0))]⟩) = J6F o := by
  have h0 : JK (fun s => J45 b0 s.1 s.2) s = some o := h
  exact J10 (P := fun (s : (List UInt8) × Int) (o : (List UInt8) × Int) => rk (J1 p) J1B 0 [.bl 0, .sq (.keep [1, 5] J2y)] (X (J1 p) (.lp 1 [1, 5, 6] J1m) ⟨[(1, .ptr 0 0), (5, .p (.s s.1)), (6, .p (.i .i64 s.2))], [.box (List.map AV.p (J4 b0))]⟩) = J6F o) (fun s r hs => by rw [J0Z]; exact JcP p hs) (fun s s1 r hs ih => by rw [J0Z]; exact (JcP p hs).trans ih) h0
def J2P (x0 : T_api_Page) : Option ((List UInt8) × Int) :=
  Option.bind (J61 x0) fun r1 =>
  if ((r1 : Int) != 0) then
    some (([] : List UInt8), r1)
  else
    Option.bind (J1K ([]) x0.LSN 8) fun r5 =>
    Option.bind (J1K r5 x0.ID 4) fun r8 =>
    Jd7 x0 (r8, 0)
theorem Jh6 {x0 : T_api_Page} {o : (List UInt8) × Int} (h : J2P x0 = some o) :
    rk (J1 p) J1B 0 [] (X (J1 p) J5y ⟨[(0, .data (J4 x0))], []⟩) = J6F o := by
  unfold J2P at h
  obtain ⟨r1, h2, h⟩ := bi h
  have f3 := Jmm p h2
  try simp only [Nf] at f3
  try simp only [↓Da, Ua, J5y, J3, J2, J6, *, ↓reduceIte, Nat.reduceEqDiff, Nat.reduceAdd, Nat.reduceLT, Nat.reduceMul]
  rcases J9 h with ⟨h4, h⟩ | ⟨h4, h⟩
  · obtain rfl := sj h
    try simp only [↓Da, Ua, J5y, J3, J2, J6, Jeq, *, ↓reduceIte, Nat.reduceEqDiff, Nat.reduceAdd, Nat.reduceLT, Nat.reduceMul]
    rfl
  · obtain ⟨r5, h6, h⟩ := bi h
    have f7 := Jaf p h6
    try simp only [Nf] at f7
    obtain ⟨r8, h9, h⟩ := bi h
    have f10 := Jaf p h9
    try simp only [Nf] at f10
    try simp only [↓Da, Ua, J5y, J3, J2, J6, *, ↓reduceIte, Nat.reduceEqDiff, Nat.reduceAdd, Nat.reduceLT, Nat.reduceMul]
    have e0 := JgV p h
    exact e0
theorem Jlv {x0 : T_api_Page} {o : (List UInt8) × Int} (h : J2P x0 = some o) : AF (J1 p) J5g [.data (J4 x0)] [] = J6F o :=
  (J0j (J1 p) (Jlb p) rfl).trans (Jh6 p h)
theorem Jeo {x0 : T_api_Page} {o : (List UInt8) × Int} (h : J2P x0 = some o) : ∀ ws new st, (Jq (AF (J1 p)) J5g ([.data (J4 x0)], ws) 0 new).run st = some ⟨.tup [.p (.s o.1), .p (.i .i64 o.2)], ws⟩ := Jz rfl (Jlv p h) rfl
def Jbn (b1 : Jg) (r : T_api_Row) : Option Res := some (.tup [], [.box (List.map AV.p (Je r)), .box (List.map AV.p (J7 b1))])
def J5b (b0 : T_api_Row) (b1 : Jg) : Option (T_api_Row) :=
  some (⟨(Jlw b0.LSN b1.Ref), b0.Image, b0.ImageLSN⟩ : T_api_Row)
theorem Jdn {b0 : T_api_Row} {b1 : Jg} {o : T_api_Row} (h : J5b b0 b1 = some o) :
    rk (J1 p) J3M 2 [] (X (J1 p) J5e ⟨[(0, .ptr 0 0), (1, .ptr 1 0)], [.box (List.map AV.p (Je b0)), .box (List.map AV.p (J7 b1))]⟩) = (Jbn b1) o := by
  unfold J5b at h
  obtain rfl := sj h
  try simp only [↓Da, Ua, J5e, J3, JL, J0z, Jk, JfY, ↓reduceIte, Nat.reduceEqDiff, Nat.reduceAdd, Nat.reduceLT, Nat.reduceMul]
  rfl
theorem Jg9 {b0 : T_api_Row} {b1 : Jg} {o : T_api_Row} (h : J5b b0 b1 = some o) : AF (J1 p) J1j [.ptr 0 0, .ptr 1 0] [.box (List.map AV.p (Je b0)), .box (List.map AV.p (J7 b1))] = (Jbn b1) o :=
  (J0j (J1 p) (Jge p) rfl).trans (Jdn p h)
def J5A (b0 : Jg) (r : T_api_Index) : Option Res := some (.data (Jj r), [.box (List.map AV.p (J7 b0))])
def J0q (x0 : T_api_Index) (x1 : Int) (b0 : Jg) : Option (T_api_Index) :=
  Option.bind (J1V x0.Rows) fun r1 =>
  Option.bind (idx r1 x1) fun y4 =>
  Option.bind (J5b y4 b0) fun r8 =>
  Option.bind (some (List.set r1 (Int.toNat x1) r8)) fun m11 =>
  some (⟨m11⟩ : T_api_Index)
theorem J8o {x0 : T_api_Index} {x1 : Int} {b0 : Jg} {o : T_api_Index} (h : J0q x0 x1 b0 = some o) :
    rk (J1 p) J4j 1 [] (X (J1 p) J5G ⟨[(0, .data (Jj x0)), (1, .p (.i .i64 x1)), (2, .fn J1j [] [.ptr 0 0])], [.box (List.map AV.p (J7 b0))]⟩) = (J5A b0) o := by
  unfold J0q at h
  obtain ⟨r1, h2, h⟩ := bi h
  have f3 : ∀ ws new s, (Jq (AF (J1 p)) J1f ([.p (.sl 3 (List.map Je x0.Rows))], ws) 1 new).run s = some ⟨.slr new 0 (List.length r1), ws ++ [(new, .arr true 3 (List.map Je r1))]⟩ := JqL rfl (Jbe p h2)
  try simp only [Nf, J5, Ji, Ja, Jd, JF] at f3
  obtain ⟨y4, h5, h⟩ := bi h
  have f6 := JbF (r := Je) h5
  try simp only [Nf, J5, Ji, Ja, Jd, JF] at f6
  have f7 : (0 ≤ (x1 : Int) ∧ (x1 : Int) < (((List.length r1) : Nat) : Int)) = True := eq_true (by have e0 := Jee h5; (try simp only [List.length_cons, List.length_nil, Nat.zero_add] at e0); omega)
  obtain ⟨r8, h9, h⟩ := bi h
  have f15 : ((List.map Je r1))[(Int.toNat x1)]? = some (Je y4) := JbF h5
  have f10 : ∀ ws new s, (J8t ws 3).run s = some (.arr true 3 (List.map Je r1)) → ((List.length r1) : Nat) = List.length (List.map Je r1) → JP ws s [0] [List.map AV.p (J7 b0)] → (Jq (AF (J1 p)) J1j ([.ep 3 (List.length r1) (Int.toNat x1) 0, .ptr 0 0], ws) 0 new).run s = some ⟨.tup [], ws ++ [(3, .arr true 3 (List.set (List.map Je r1) (Int.toNat x1) (Je r8))), (0, .box (List.map AV.p (J7 b0)))]⟩ := fun ws new s h1 h2 h3 => Jp4 (args' := [.ptr 0 0, .ptr 1 0]) (bs := [0]) (css := [List.map AV.p (J7 b0)]) (css' := [List.map AV.p (J7 b0)]) (row := (Je y4)) (row' := Je r8) rfl rfl (by first | rfl | simp [ren.renL, ren, J3m]) (by simp [Jo, Jb]) (Jg9 p h9) rfl rfl (by simp [Jo, Jb]) ws new s h1 h2 f15 h3
  try simp only [Nf, J5, Ji, Ja, Jd, JF] at f10
  obtain ⟨m11, h12, h⟩ := bi h
  have f13 : List.set (List.map Je r1) (Int.toNat x1) (Je r8) = List.map Je m11 := by
    rw [← Option.some.inj h12, List.map_set]
  try simp only [Nf, J5, Ji, Ja, Jd, JF] at f13
  have g14 : List.length m11 = List.length r1 := by rw [← Option.some.inj h12, List.length_set]
  obtain rfl := sj h
  try simp only [↓Da, Ua, J5G, J5, Ji, Ja, Jd, JF, Jh8, *, ↓reduceIte, Nat.reduceEqDiff, Nat.reduceAdd, Nat.reduceLT, Nat.reduceMul]
  rfl
theorem J9t {x0 : T_api_Index} {x1 : Int} {b0 : Jg} {o : T_api_Index} (h : J0q x0 x1 b0 = some o) : AF (J1 p) J4i [.data (Jj x0), .p (.i .i64 x1), .fn J1j [] [.ptr 0 0]] [.box (List.map AV.p (J7 b0))] = (J5A b0) o :=
  (J0j (J1 p) (Jgq p) rfl).trans (J8o p h)
def Jd5  (r : T_api_Index × Int) : Option Res := some (.tup [.data (Jj r.1), .p (.i .i64 r.2)], [])
def J23 (x0 : T_api_Index) (x1 : Jg) : Option (T_api_Index × Int) :=
  Option.bind (J1J x0) fun r1 =>
  if r1 then
    Option.bind (J65 x1) fun r5 =>
    if r5 then
      if ((x1.Kind : Int) != 7) then
        some (x0, 0)
      else
        Option.bind (J1I x0 x1.Change.Page) fun r11 =>
        if r11 then
          Option.bind (J0q x0 x1.Change.Page x1) fun r16 =>
          some (r16, 0)
        else
          some ((⟨([] : List T_api_Row)⟩ : T_api_Index), 1)
    else
      some ((⟨([] : List T_api_Row)⟩ : T_api_Index), 12)
  else
    some ((⟨([] : List T_api_Row)⟩ : T_api_Index), 28)
theorem JeO {x0 : T_api_Index} {x1 : Jg} {o : T_api_Index × Int} (h : J23 x0 x1 = some o) :
    rk (J1 p) J5n 0 [] (X (J1 p) J13 ⟨[(0, .data (Jj x0)), (1, .data (J7 x1))], []⟩) = Jd5 o := by
  unfold J23 at h
  obtain ⟨r1, h2, h⟩ := bi h
  have f3 := Jc8 p h2
  try simp only [Nf, J5] at f3
  try simp only [↓Da, Ua, J13, J5, J3, JL, J0z, Jk, *, ↓reduceIte, Nat.reduceEqDiff, Nat.reduceAdd, Nat.reduceLT, Nat.reduceMul]
  rcases J9 h with ⟨h4, h⟩ | ⟨h4, h⟩
  · obtain ⟨r5, h6, h⟩ := bi h
    have f7 := JmM p h6
    try simp only [Nf, J5] at f7
    try simp only [↓Da, Ua, J13, J5, J3, JL, J0z, Jk, *, ↓reduceIte, Nat.reduceEqDiff, Nat.reduceAdd, Nat.reduceLT, Nat.reduceMul]
    rcases J9 h with ⟨h8, h⟩ | ⟨h8, h⟩
    · try simp only [↓Da, Ua, J13, J5, J3, JL, J0z, Jk, *, ↓reduceIte, Nat.reduceEqDiff, Nat.reduceAdd, Nat.reduceLT, Nat.reduceMul]
      rcases J9 h with ⟨h9, h⟩ | ⟨h9, h⟩
      · obtain rfl := sj h
        try simp only [↓Da, Ua, J13, J5, J3, JL, J0z, Jk, J6N, *, ↓reduceIte, Nat.reduceEqDiff, Nat.reduceAdd, Nat.reduceLT, Nat.reduceMul]
        rfl
      · have f10 : sub (J7 x1) 6 1 = some ((r_i .i64) x1.Change.Page) := by
          have e0 := (J6z (J8I x1) (J9g x1.Change))
          exact e0
        try simp only [Nf, J5] at f10
        obtain ⟨r11, h12, h⟩ := bi h
        have f13 := Jc9 p h12
        try simp only [Nf, J5] at f13
        try simp only [↓Da, Ua, J13, J5, J3, JL, J0z, Jk, *, ↓reduceIte, Nat.reduceEqDiff, Nat.reduceAdd, Nat.reduceLT, Nat.reduceMul]
        rcases J9 h with ⟨h14, h⟩ | ⟨h14, h⟩
        · try try rw [h4] at h14
          have f15 : sub (J7 x1) 6 1 = some ((r_i .i64) x1.Change.Page) := by
            have e0 := (J6z (J8I x1) (J9g x1.Change))
            exact e0
          try simp only [Nf, J5] at f15
          obtain ⟨r16, h17, h⟩ := bi h
          have f18 : ∀ ws new s, JP ws s [1] [List.map AV.p (J7 x1)] → (Jq (AF (J1 p)) J4i ([.data (Jj x0), .p (.i .i64 x1.Change.Page), .fn J1j [] [.ptr 1 0]], ws) 0 new).run s = some ⟨.data (Jj r16), ws ++ [(1, .box (List.map AV.p (J7 x1)))]⟩ := JG (args' := [.data (Jj x0), .p (.i .i64 x1.Change.Page), .fn J1j [] [.ptr 0 0]]) (bs := [1]) (css := [List.map AV.p (J7 x1)]) (css' := [List.map AV.p (J7 x1)]) rfl rfl rfl (by simp [Jo, Jb]) (J9t p h17) rfl rfl (by simp [Jo, Jb])
          try simp only [Nf, J5] at f18
          obtain rfl := sj h
          try simp only [↓Da, Ua, J13, J5, J3, JL, J0z, Jk, J6N, *, ↓reduceIte, Nat.reduceEqDiff, Nat.reduceAdd, Nat.reduceLT, Nat.reduceMul]
          rfl
        · try try rw [h4] at h14
          obtain rfl := sj h
          try simp only [↓Da, Ua, J13, J5, J3, JL, J0z, Jk, J6N, *, ↓reduceIte, Nat.reduceEqDiff, Nat.reduceAdd, Nat.reduceLT, Nat.reduceMul]
          rfl
    · obtain rfl := sj h
      try simp only [↓Da, Ua, J13, J5, J3, JL, J0z, Jk, J6N, *, ↓reduceIte, Nat.reduceEqDiff, Nat.reduceAdd, Nat.reduceLT, Nat.reduceMul]
      rfl
  · obtain rfl := sj h
    try simp only [↓Da, Ua, J13, J5, J3, JL, J0z, Jk, J6N, *, ↓reduceIte, Nat.reduceEqDiff, Nat.reduceAdd, Nat.reduceLT, Nat.reduceMul]
    rfl
theorem Jj3 {x0 : T_api_Index} {x1 : Jg} {o : T_api_Index × Int} (h : J23 x0 x1 = some o) : AF (J1 p) J47 [.data (Jj x0), .data (J7 x1)] [] = Jd5 o :=
  (J0j (J1 p) (Jjj p) rfl).trans (JeO p h)
theorem JcL {x0 : T_api_Index} {x1 : Jg} {o : T_api_Index × Int} (h : J23 x0 x1 = some o) : ∀ ws new st, (Jq (AF (J1 p)) J47 ([.data (Jj x0), .data (J7 x1)], ws) 0 new).run st = some ⟨.tup [.data (Jj o.1), .p (.i .i64 o.2)], ws⟩ := Jz rfl (Jj3 p h) rfl
def JdK  (r : T_api_Page × Int) : Option Res := some (.tup [.data (J4 r.1), .p (.i .i64 r.2)], [])
def J30 (x0 : List UInt8) (x1 : Int) : Option (T_api_Page × Int) :=
  Option.bind (J2F x1) fun r1 =>
  if r1 then
    Option.bind (J1O x0) fun r5 =>
    if ((r5.2 : Int) == 7) then
      Option.bind (J9L x1) fun r9 =>
      some (r9, 0)
    else
      if ((r5.2 : Int) != 0) then
        some ((⟨0, 0, (Vector.replicate 16 (⟨false, []⟩ : J8))⟩ : T_api_Page), r5.2)
      else
        if ((r5.1.ID : Int) != x1) then
          some ((⟨0, 0, (Vector.replicate 16 (⟨false, []⟩ : J8))⟩ : T_api_Page), 6)
        else
          some (r5.1, 0)
  else
    some ((⟨0, 0, (Vector.replicate 16 (⟨false, []⟩ : J8))⟩ : T_api_Page), 1)
theorem Jg6 {x0 : List UInt8} {x1 : Int} {o : T_api_Page × Int} (h : J30 x0 x1 = some o) :
    rk (J1 p) J5P 0 [] (X (J1 p) J1e ⟨[(0, .p (.s x0)), (1, .p (.i .i64 x1))], []⟩) = JdK o := by
  unfold J30 at h
  obtain ⟨r1, h2, h⟩ := bi h
  have f3 := JgR p h2
  try simp only [Nf] at f3
  try simp only [↓Da, Ua, J1e, J3, J2, J6, *, ↓reduceIte, Nat.reduceEqDiff, Nat.reduceAdd, Nat.reduceLT, Nat.reduceMul]
  rcases J9 h with ⟨h4, h⟩ | ⟨h4, h⟩
  · obtain ⟨r5, h6, h⟩ := bi h
    have f7 := JmT p h6
    try simp only [Nf] at f7
    try simp only [↓Da, Ua, J1e, J3, J2, J6, *, ↓reduceIte, Nat.reduceEqDiff, Nat.reduceAdd, Nat.reduceLT, Nat.reduceMul]
    rcases J9 h with ⟨h8, h⟩ | ⟨h8, h⟩
    · have h8n : ((r5.2 : Int) != 7) = false := by rw [bne, h8]; rfl
      obtain ⟨r9, h10, h⟩ := bi h
      have f11 := JqB p h10
      try simp only [Nf] at f11
      obtain rfl := sj h
      try simp only [↓Da, Ua, J1e, J3, J2, J6, J7A, *, ↓reduceIte, Nat.reduceEqDiff, Nat.reduceAdd, Nat.reduceLT, Nat.reduceMul]
      rfl
    · have h8n : ((r5.2 : Int) != 7) = true := by rw [bne, h8]; rfl
      try simp only [↓Da, Ua, J1e, J3, J2, J6, *, ↓reduceIte, Nat.reduceEqDiff, Nat.reduceAdd, Nat.reduceLT, Nat.reduceMul]
      rcases J9 h with ⟨h12, h⟩ | ⟨h12, h⟩
      · obtain rfl := sj h
        try simp only [↓Da, Ua, J1e, J3, J2, J6, J7A, *, ↓reduceIte, Nat.reduceEqDiff, Nat.reduceAdd, Nat.reduceLT, Nat.reduceMul]
        rfl
      · try simp only [↓Da, Ua, J1e, J3, J2, J6, *, ↓reduceIte, Nat.reduceEqDiff, Nat.reduceAdd, Nat.reduceLT, Nat.reduceMul]
        rcases J9 h with ⟨h13, h⟩ | ⟨h13, h⟩
        · obtain rfl := sj h
          try simp only [↓Da, Ua, J1e, J3, J2, J6, J7A, *, ↓reduceIte, Nat.reduceEqDiff, Nat.reduceAdd, Nat.reduceLT, Nat.reduceMul]
          rfl
        · obtain rfl := sj h
          try simp only [↓Da, Ua, J1e, J3, J2, J6, J7A, *, ↓reduceIte, Nat.reduceEqDiff, Nat.reduceAdd, Nat.reduceLT, Nat.reduceMul]
          rfl
  · obtain rfl := sj h
    try simp only [↓Da, Ua, J1e, J3, J2, J6, J7A, *, ↓reduceIte, Nat.reduceEqDiff, Nat.reduceAdd, Nat.reduceLT, Nat.reduceMul]
    rfl
theorem Jke {x0 : List UInt8} {x1 : Int} {o : T_api_Page × Int} (h : J30 x0 x1 = some o) : AF (J1 p) J5M [.p (.s x0), .p (.i .i64 x1)] [] = JdK o :=
  (J0j (J1 p) (JkD p) rfl).trans (Jg6 p h)
theorem JjG {x0 : List UInt8} {x1 : Int} {o : T_api_Page × Int} (h : J30 x0 x1 = some o) : ∀ ws new st, (Jq (AF (J1 p)) J5M ([.p (.s x0), .p (.i .i64 x1)], ws) 0 new).run st = some ⟨.tup [.data (J4 o.1), .p (.i .i64 o.2)], ws⟩ := Jz rfl (Jke p h) rfl
def J6y  (r : T_api_Page × Int) : Option Res := some (.tup [.data (J4 r.1), .p (.i .i64 r.2)], [])
def JcO (x0 : List UInt8) (b0 : T_api_Page) (o : (Int × T_api_Page) ⊕ (T_api_Page × Int)) : Option Res := match o with
  | .inl s => rk (J1 p) J1U 0 [.bl 1, .sq (.keep [0, 2, 6] J1k)] (X (J1 p) (.lp 2 [0, 2, 6, 7] J12) ⟨[(0, .p (.s x0)), (2, .ptr 0 0), (6, .ptr 1 0), (7, .p (.i .i64 s.1))], [.box (List.map AV.p (J4 b0)), .box (List.map AV.p (J4 s.2))]⟩)
  | .inr o => J6y o
def J5w (x0 : List UInt8) (x7 : Int) (b0 : T_api_Page) (b1 : T_api_Page) : Option (((Int × T_api_Page) ⊕ (T_api_Page × Int))) :=
  some (.inl ((IntKind.wrap .i64 (x7 + 1)), b1))
theorem Jd3 {x0 : List UInt8} {x7 : Int} {b0 : T_api_Page} {b1 : T_api_Page} {o : ((Int × T_api_Page) ⊕ (T_api_Page × Int))} (h : J5w x0 x7 b0 b1 = some o) :
    rk (J1 p) J1U 0 [.lo 2 [0, 2, 6, 7] J12, .bl 1, .sq (.keep [0, 2, 6] J1k)] (X (J1 p) JaI ⟨[(0, .p (.s x0)), (2, .ptr 0 0), (6, .ptr 1 0), (7, .p (.i .i64 x7))], [.box (List.map AV.p (J4 b0)), .box (List.map AV.p (J4 b1))]⟩) = (JcO p x0 b0) o := by
  unfold J5w at h
  obtain rfl := sj h
  try simp only [↓Da, Ua, JaI, ↓reduceIte, Nat.reduceEqDiff, Nat.reduceAdd, Nat.reduceLT, Nat.reduceMul]
  rfl
def J38 (x0 : List UInt8) (b0 : T_api_Page) (b1 : T_api_Page) : Option (T_api_Page × Int) :=
  Option.bind (J2P b1) fun r1 =>
  if ((r1.2 : Int) != 0) then
    some ((⟨0, 0, (Vector.replicate 16 (⟨false, []⟩ : J8))⟩ : T_api_Page), 4)
  else
    if (r1.1 == x0) then
      some (b1, 0)
    else
      some ((⟨0, 0, (Vector.replicate 16 (⟨false, []⟩ : J8))⟩ : T_api_Page), 4)
theorem JiW {x0 : List UInt8} {b0 : T_api_Page} {b1 : T_api_Page} {o : T_api_Page × Int} (h : J38 x0 b0 b1 = some o) :
    rk (J1 p) J1U 0 [] (X (J1 p) J1k ⟨[(0, .p (.s x0)), (2, .ptr 0 0), (6, .ptr 1 0)], [.box (List.map AV.p (J4 b0)), .box (List.map AV.p (J4 b1))]⟩) = J6y o := by
  unfold J38 at h
  obtain ⟨r1, h2, h⟩ := bi h
  have f3 := Jeo p h2
  try simp only [Nf] at f3
  try simp only [↓Da, Ua, J1k, J3, J2, J6, *, ↓reduceIte, Nat.reduceEqDiff, Nat.reduceAdd, Nat.reduceLT, Nat.reduceMul]
  rcases J9 h with ⟨h4, h⟩ | ⟨h4, h⟩
  · obtain rfl := sj h
    try simp only [↓Da, Ua, J1k, J3, J2, J6, J4k, *, ↓reduceIte, Nat.reduceEqDiff, Nat.reduceAdd, Nat.reduceLT, Nat.reduceMul]
    rfl
  · try simp only [↓Da, Ua, J1k, J3, J2, J6, *, ↓reduceIte, Nat.reduceEqDiff, Nat.reduceAdd, Nat.reduceLT, Nat.reduceMul]
    rcases J9 h with ⟨h5, h⟩ | ⟨h5, h⟩
    · obtain rfl := sj h
      try simp only [↓Da, Ua, J1k, J3, J2, J6, J4k, *, ↓reduceIte, Nat.reduceEqDiff, Nat.reduceAdd, Nat.reduceLT, Nat.reduceMul]
      rfl
    · obtain rfl := sj h
      try simp only [↓Da, Ua, J1k, J3, J2, J6, J4k, *, ↓reduceIte, Nat.reduceEqDiff, Nat.reduceAdd, Nat.reduceLT, Nat.reduceMul]
      rfl
def J39 (x0 : List UInt8) (b0 : T_api_Page) (x7 : Int) (b1 : T_api_Page) : Option (((Int × T_api_Page) ⊕ (T_api_Page × Int))) :=
  if (decide (x7 < 16)) then
    Option.bind (Jd6 x0 (IntKind.wrap .i64 (12 + (IntKind.wrap .i64 (x7 * 13))))) fun c2 =>
    if (((IntKind.wrap .i64 c2) : Int) == 255) then
      J5w x0 x7 b0 b1
    else
      if (decide ((IntKind.wrap .i64 c2) > 12)) then
        some (.inr ((⟨0, 0, (Vector.replicate 16 (⟨false, []⟩ : J8))⟩ : T_api_Page), 4))
      else
        Option.bind (J34 x0 (some (IntKind.wrap .i64 ((IntKind.wrap .i64 (12 + (IntKind.wrap .i64 (x7 * 13)))) + 1))) (some (IntKind.wrap .i64 ((IntKind.wrap .i64 ((IntKind.wrap .i64 (12 + (IntKind.wrap .i64 (x7 * 13)))) + 1)) + (IntKind.wrap .i64 c2))))) fun m6 =>
        Option.bind (inb 16 x7) fun u9 =>
        Option.bind (J6Z b1.Cells x7) fun y12 =>
        J5w x0 x7 b0 (⟨b1.ID, b1.LSN, (JaE b1.Cells x7 (⟨true, m6⟩ : J8))⟩ : T_api_Page)
  else
    Option.map (fun o => .inr o) (J38 x0 b0 b1)
theorem JcJ {x0 : List UInt8} {b0 : T_api_Page} {x7 : Int} {b1 : T_api_Page} {o : ((Int × T_api_Page) ⊕ (T_api_Page × Int))} (h : J39 x0 b0 x7 b1 = some o) :
    rk (J1 p) J1U 0 [.lo 2 [0, 2, 6, 7] J12, .bl 1, .sq (.keep [0, 2, 6] J1k)] (X (J1 p) J12 ⟨[(0, .p (.s x0)), (2, .ptr 0 0), (6, .ptr 1 0), (7, .p (.i .i64 x7))], [.box (List.map AV.p (J4 b0)), .box (List.map AV.p (J4 b1))]⟩) = (JcO p x0 b0) o := by
  unfold J39 at h
  rcases J9 h with ⟨h1, h⟩ | ⟨h1, h⟩
  · obtain ⟨c2, h3, h⟩ := bi h
    try simp only [↓Da, Ua, J12, J3, J2, J6, *, ↓reduceIte, Nat.reduceEqDiff, Nat.reduceAdd, Nat.reduceLT, Nat.reduceMul]
    rcases J9 h with ⟨h4, h⟩ | ⟨h4, h⟩
    · have h4n : (((IntKind.wrap .i64 c2) : Int) != 255) = false := by rw [bne, h4]; rfl
      try simp only [↓Da, Ua, J12, J3, J2, J6, *, ↓reduceIte, Nat.reduceEqDiff, Nat.reduceAdd, Nat.reduceLT, Nat.reduceMul]
      have e0 := Jd3 p h
      exact e0
    · have h4n : (((IntKind.wrap .i64 c2) : Int) != 255) = true := by rw [bne, h4]; rfl
      try simp only [↓Da, Ua, J12, J3, J2, J6, *, ↓reduceIte, Nat.reduceEqDiff, Nat.reduceAdd, Nat.reduceLT, Nat.reduceMul]
      rcases J9 h with ⟨h5, h⟩ | ⟨h5, h⟩
      · obtain rfl := sj h
        try simp only [↓Da, Ua, J12, J3, J2, J6, J4k, *, ↓reduceIte, Nat.reduceEqDiff, Nat.reduceAdd, Nat.reduceLT, Nat.reduceMul]
        rfl
      · obtain ⟨m6, h7, h⟩ := bi h
        have f8 : J36 (.p (.s x0)) (some (.p (.i .i64 (IntKind.wrap .i64 ((IntKind.wrap .i64 (12 + (IntKind.wrap .i64 (x7 * 13)))) + 1))))) (some (.p (.i .i64 (IntKind.wrap .i64 ((IntKind.wrap .i64 ((IntKind.wrap .i64 (12 + (IntKind.wrap .i64 (x7 * 13)))) + 1)) + (IntKind.wrap .i64 c2)))))) = some (.p (.s m6)) := J4c (k := .i64) (lo := (some (IntKind.wrap .i64 ((IntKind.wrap .i64 (12 + (IntKind.wrap .i64 (x7 * 13)))) + 1)))) (hi := (some (IntKind.wrap .i64 ((IntKind.wrap .i64 ((IntKind.wrap .i64 (12 + (IntKind.wrap .i64 (x7 * 13)))) + 1)) + (IntKind.wrap .i64 c2))))) h7
        try simp only [Nf] at f8
        obtain ⟨u9, h10, h⟩ := bi h
        have f11 : (0 ≤ (x7 : Int) ∧ (x7 : Int) < ((16 : Nat) : Int)) = True := eq_true (J8h h10)
        obtain ⟨y12, h13, h⟩ := bi h
        have f14 : spl (J4 b1) (2 + Int.toNat x7 * 2) (Jh (⟨true, m6⟩ : J8)) = some (J4 (⟨b1.ID, b1.LSN, (JaE b1.Cells x7 (⟨true, m6⟩ : J8))⟩ : T_api_Page)) := by
          have e0 := (Jlf (J1v b1) (JjR (v := b1.Cells) JI (Jhp h13) (⟨true, m6⟩ : J8)) (J7F b1 _))
          exact e0
        try simp only [Nf] at f14
        try simp only [↓Da, Ua, J12, J3, J2, J6, *, ↓reduceIte, Nat.reduceEqDiff, Nat.reduceAdd, Nat.reduceLT, Nat.reduceMul]
        have e0 := Jd3 p h
        exact e0
  · obtain ⟨o', h', rfl⟩ := mi h
    try simp only [↓Da, Ua, J12, J3, J2, J6, *, ↓reduceIte, Nat.reduceEqDiff, Nat.reduceAdd, Nat.reduceLT, Nat.reduceMul]
    have e0 := JiW p h'
    exact e0
def JaG (x0 : List UInt8) (b0 : T_api_Page) (s : Int × T_api_Page) : Option (T_api_Page × Int) :=
  JK (fun s => J39 x0 b0 s.1 s.2) s
theorem Jgx {x0 : List UInt8} {b0 : T_api_Page} {s : Int × T_api_Page} {o : T_api_Page × Int} (h : JaG x0 b0 s = some o) :
    rk (J1 p) J1U 0 [.bl 1, .sq (.keep [0, 2, 6] J1k)] (X (J1 p) (.lp 2 [0, 2, 6, 7] J12) ⟨[(0, .p (.s x0)), (2, .ptr 0 0), (6, .ptr 1 0), (7, .p (.i .i64 s.1))], [.box (List.map AV.p (J4 b0)), .box (List.map AV.p (J4 s.2))]⟩) = J6y o := by
  have h0 : JK (fun s => J39 x0 b0 s.1 s.2) s = some o := h
  exact J10 (P := fun (s : Int × T_api_Page) (o : T_api_Page × Int) => rk (J1 p) J1U 0 [.bl 1, .sq (.keep [0, 2, 6] J1k)] (X (J1 p) (.lp 2 [0, 2, 6, 7] J12) ⟨[(0, .p (.s x0)), (2, .ptr 0 0), (6, .ptr 1 0), (7, .p (.i .i64 s.1))], [.box (List.map AV.p (J4 b0)), .box (List.map AV.p (J4 s.2))]⟩) = J6y o) (fun s r hs => by rw [J0Z]; exact JcJ p hs) (fun s s1 r hs ih => by rw [J0Z]; exact (JcJ p hs).trans ih) h0
def J5q (x0 : List UInt8) : Option (T_api_Page × Int) :=
  if ((((List.length x0 : Nat) : Int) : Int) != 256) then
    some ((⟨0, 0, (Vector.replicate 16 (⟨false, []⟩ : J8))⟩ : T_api_Page), 2)
  else
    Option.bind (J4X) fun r2 =>
    if (x0 == r2) then
      some ((⟨0, 0, (Vector.replicate 16 (⟨false, []⟩ : J8))⟩ : T_api_Page), 7)
    else
      Option.bind (J34 x0 none (some 8)) fun m6 =>
      Option.bind (J34 x0 (some 248) none) fun m9 =>
      if (m6 == m9) then
        Option.bind (J3h x0 244 4) fun r13 =>
        Option.bind (J34 x0 none (some 244)) fun m16 =>
        Option.bind (J7O m16) fun r19 =>
        if (((IntKind.wrap .u32 r13.1) : Int) != r19) then
          some ((⟨0, 0, (Vector.replicate 16 (⟨false, []⟩ : J8))⟩ : T_api_Page), 3)
        else
          Option.bind (J3h x0 0 8) fun r23 =>
          Option.bind (J3h x0 8 4) fun r26 =>
          JaG x0 (⟨0, 0, (Vector.replicate 16 (⟨false, []⟩ : J8))⟩ : T_api_Page) (0, (⟨r26.1, r23.1, (Vector.replicate 16 (⟨false, []⟩ : J8))⟩ : T_api_Page))
      else
        some ((⟨0, 0, (Vector.replicate 16 (⟨false, []⟩ : J8))⟩ : T_api_Page), 27)
theorem Jgl {x0 : List UInt8} {o : T_api_Page × Int} (h : J5q x0 = some o) :
    rk (J1 p) J1U 0 [] (X (J1 p) J1Q ⟨[(0, .p (.s x0))], []⟩) = J6y o := by
  unfold J5q at h
  rcases J9 h with ⟨h1, h⟩ | ⟨h1, h⟩
  · obtain rfl := sj h
    try simp only [↓Da, Ua, J1Q, J3, J2, J6, J4k, *, ↓reduceIte, Nat.reduceEqDiff, Nat.reduceAdd, Nat.reduceLT, Nat.reduceMul]
    rfl
  · obtain ⟨r2, h3, h⟩ := bi h
    have f4 := JfG p h3
    try simp only [Nf] at f4
    try simp only [↓Da, Ua, J1Q, J3, J2, J6, *, ↓reduceIte, Nat.reduceEqDiff, Nat.reduceAdd, Nat.reduceLT, Nat.reduceMul]
    rcases J9 h with ⟨h5, h⟩ | ⟨h5, h⟩
    · obtain rfl := sj h
      try simp only [↓Da, Ua, J1Q, J3, J2, J6, J4k, *, ↓reduceIte, Nat.reduceEqDiff, Nat.reduceAdd, Nat.reduceLT, Nat.reduceMul]
      rfl
    · obtain ⟨m6, h7, h⟩ := bi h
      have f8 : J36 (.p (.s x0)) none (some (.p (.i .i64 8))) = some (.p (.s m6)) := J4c (k := .i64) (lo := none) (hi := (some 8)) h7
      try simp only [Nf] at f8
      obtain ⟨m9, h10, h⟩ := bi h
      have f11 : J36 (.p (.s x0)) (some (.p (.i .i64 248))) none = some (.p (.s m9)) := J4c (k := .i64) (lo := (some 248)) (hi := none) h10
      try simp only [Nf] at f11
      try simp only [↓Da, Ua, J1Q, J3, J2, J6, *, ↓reduceIte, Nat.reduceEqDiff, Nat.reduceAdd, Nat.reduceLT, Nat.reduceMul]
      rcases J9 h with ⟨h12, h⟩ | ⟨h12, h⟩
      · obtain ⟨r13, h14, h⟩ := bi h
        have f15 := Je7 p h14
        try simp only [Nf] at f15
        obtain ⟨m16, h17, h⟩ := bi h
        have f18 : J36 (.p (.s x0)) none (some (.p (.i .i64 244))) = some (.p (.s m16)) := J4c (k := .i64) (lo := none) (hi := (some 244)) h17
        try simp only [Nf] at f18
        obtain ⟨r19, h20, h⟩ := bi h
        have f21 := Jix p h20
        try simp only [Nf] at f21
        try simp only [↓Da, Ua, J1Q, J3, J2, J6, *, ↓reduceIte, Nat.reduceEqDiff, Nat.reduceAdd, Nat.reduceLT, Nat.reduceMul]
        rcases J9 h with ⟨h22, h⟩ | ⟨h22, h⟩
        · obtain rfl := sj h
          try simp only [↓Da, Ua, J1Q, J3, J2, J6, J4k, *, ↓reduceIte, Nat.reduceEqDiff, Nat.reduceAdd, Nat.reduceLT, Nat.reduceMul]
          rfl
        · obtain ⟨r23, h24, h⟩ := bi h
          have f25 := Je7 p h24
          try simp only [Nf] at f25
          obtain ⟨r26, h27, h⟩ := bi h
          have f28 := Je7 p h27
          try simp only [Nf] at f28
          try simp only [↓Da, Ua, J1Q, J3, J2, J6, *, ↓reduceIte, Nat.reduceEqDiff, Nat.reduceAdd, Nat.reduceLT, Nat.reduceMul]
          have e0 := Jgx p h
          exact e0
      · obtain rfl := sj h
        try simp only [↓Da, Ua, J1Q, J3, J2, J6, J4k, *, ↓reduceIte, Nat.reduceEqDiff, Nat.reduceAdd, Nat.reduceLT, Nat.reduceMul]
        rfl
theorem Jld {x0 : List UInt8} {o : T_api_Page × Int} (h : J5q x0 = some o) : AF (J1 p) J6C [.p (.s x0)] [] = J6y o :=
  (J0j (J1 p) (JkS p) rfl).trans (Jgl p h)
theorem Jl1 {x0 : List UInt8} {o : T_api_Page × Int} (h : J5q x0 = some o) : ∀ ws new st, (Jq (AF (J1 p)) J6C ([.p (.s x0)], ws) 0 new).run st = some ⟨.tup [.data (J4 o.1), .p (.i .i64 o.2)], ws⟩ := Jz rfl (Jld p h) rfl
def JfW  (r : Bool) : Option Res := some (.p (.b r), [])
def J5Y  : Option (Bool) :=
  Option.bind (J3G 2) fun r1 =>
  Option.bind (J23 r1.1 (⟨9, 7, 0, 0, 0, 5, (⟨1, 0, (⟨false, ([] : List UInt8)⟩ : J8), (⟨false, ([] : List UInt8)⟩ : J8)⟩ : Js), ([] : List UInt8)⟩ : Jg)) fun r4 =>
  Option.bind (J23 r4.1 (⟨10, 7, 0, 0, 0, 3, (⟨1, 0, (⟨false, ([] : List UInt8)⟩ : J8), (⟨false, ([] : List UInt8)⟩ : J8)⟩ : Js), ([] : List UInt8)⟩ : Jg)) fun r7 =>
  if ((r1.2 : Int) == 0) then
    if ((r4.2 : Int) == 0) then
      if ((r7.2 : Int) == 0) then
        if ((((List.length r7.1.Rows : Nat) : Int) : Int) == 2) then
          Option.bind (idx r7.1.Rows 1) fun y14 =>
          some ((y14.LSN : Int) == 5)
        else
          some false
      else
        some false
    else
      some false
  else
    some false
theorem JhJ  {o : Bool} (h : J5Y = some o) :
    rk (J1 p) J79 0 [] (X (J1 p) J1T ⟨[], []⟩) = JfW o := by
  unfold J5Y at h
  obtain ⟨r1, h2, h⟩ := bi h
  have f3 := Jkb p h2
  try simp only [Nf, J5] at f3
  obtain ⟨r4, h5, h⟩ := bi h
  have f6 := JcL p h5
  try simp only [Nf, J5] at f6
  obtain ⟨r7, h8, h⟩ := bi h
  have f9 := JcL p h8
  try simp only [Nf, J5] at f9
  try simp only [↓Da, Ua, J1T, J5, J3, JL, J0z, Jk, *, ↓reduceIte, Nat.reduceEqDiff, Nat.reduceAdd, Nat.reduceLT, Nat.reduceMul]
  rcases J9 h with ⟨h10, h⟩ | ⟨h10, h⟩
  · have h10n : ((r1.2 : Int) != 0) = false := by rw [bne, h10]; rfl
    try simp only [↓Da, Ua, J1T, J5, J3, JL, J0z, Jk, *, ↓reduceIte, Nat.reduceEqDiff, Nat.reduceAdd, Nat.reduceLT, Nat.reduceMul]
    rcases J9 h with ⟨h11, h⟩ | ⟨h11, h⟩
    · have h11n : ((r4.2 : Int) != 0) = false := by rw [bne, h11]; rfl
      try simp only [↓Da, Ua, J1T, J5, J3, JL, J0z, Jk, *, ↓reduceIte, Nat.reduceEqDiff, Nat.reduceAdd, Nat.reduceLT, Nat.reduceMul]
      rcases J9 h with ⟨h12, h⟩ | ⟨h12, h⟩
      · have h12n : ((r7.2 : Int) != 0) = false := by rw [bne, h12]; rfl
        try simp only [↓Da, Ua, J1T, J5, J3, JL, J0z, Jk, *, ↓reduceIte, Nat.reduceEqDiff, Nat.reduceAdd, Nat.reduceLT, Nat.reduceMul]
        rcases J9 h with ⟨h13, h⟩ | ⟨h13, h⟩
        · have h13n : ((((List.length r7.1.Rows : Nat) : Int) : Int) != 2) = false := by rw [bne, h13]; rfl
          obtain ⟨y14, h15, h⟩ := bi h
          have f16 := J5J (r := Je) h15
          try simp only [Nf, J5] at f16
          obtain rfl := sj h
          try simp only [↓Da, Ua, J1T, J5, J3, JL, J0z, Jk, J8O, *, ↓reduceIte, Nat.reduceEqDiff, Nat.reduceAdd, Nat.reduceLT, Nat.reduceMul]
          rfl
        · have h13n : ((((List.length r7.1.Rows : Nat) : Int) : Int) != 2) = true := by rw [bne, h13]; rfl
          obtain rfl := sj h
          try simp only [↓Da, Ua, J1T, J5, J3, JL, J0z, Jk, J8O, *, ↓reduceIte, Nat.reduceEqDiff, Nat.reduceAdd, Nat.reduceLT, Nat.reduceMul]
          rfl
      · have h12n : ((r7.2 : Int) != 0) = true := by rw [bne, h12]; rfl
        obtain rfl := sj h
        try simp only [↓Da, Ua, J1T, J5, J3, JL, J0z, Jk, J8O, *, ↓reduceIte, Nat.reduceEqDiff, Nat.reduceAdd, Nat.reduceLT, Nat.reduceMul]
        rfl
    · have h11n : ((r4.2 : Int) != 0) = true := by rw [bne, h11]; rfl
      obtain rfl := sj h
      try simp only [↓Da, Ua, J1T, J5, J3, JL, J0z, Jk, J8O, *, ↓reduceIte, Nat.reduceEqDiff, Nat.reduceAdd, Nat.reduceLT, Nat.reduceMul]
      rfl
  · have h10n : ((r1.2 : Int) != 0) = true := by rw [bne, h10]; rfl
    obtain rfl := sj h
    try simp only [↓Da, Ua, J1T, J5, J3, JL, J0z, Jk, J8O, *, ↓reduceIte, Nat.reduceEqDiff, Nat.reduceAdd, Nat.reduceLT, Nat.reduceMul]
    rfl
theorem Jn6  {o : Bool} (h : J5Y = some o) : AF (J1 p) J7k [] [] = JfW o :=
  (J0j (J1 p) (JmS p) rfl).trans (JhJ p h)
theorem Jn1  {o : Bool} (h : J5Y = some o) : ∀ ws new st, (Jq (AF (J1 p)) J7k ([], ws) 0 new).run st = some ⟨.p (.b o), ws⟩ := Jz rfl (Jn6 p h) rfl
def Jca  (r : T_api_Page × Int) : Option Res := some (.tup [.data (J4 r.1), .p (.i .i64 r.2)], [])
def J3x (x0 : T_api_Index) (x1 : Int) (x2 : Int) (x3 : List UInt8) : Option (T_api_Page × Int) :=
  Option.bind (J1J x0) fun r1 =>
  if r1 then
    Option.bind (J1I x0 x1) fun r5 =>
    if r5 then
      if (decide (x2 < 0)) then
        some ((⟨0, 0, (Vector.replicate 16 (⟨false, []⟩ : J8))⟩ : T_api_Page), 1)
      else
        Option.bind (J30 x3 x1) fun r10 =>
        Option.bind (idx x0.Rows x1) fun y13 =>
        if ((r10.2 : Int) != 0) then
          some ((⟨0, 0, (Vector.replicate 16 (⟨false, []⟩ : J8))⟩ : T_api_Page), r10.2)
        else
          if (decide (r10.1.LSN > x2)) then
            if (decide (r10.1.LSN > y13.LSN)) then
              some ((⟨0, 0, (Vector.replicate 16 (⟨false, []⟩ : J8))⟩ : T_api_Page), 9)
            else
              if (decide (r10.1.LSN < y13.LSN)) then
                some ((⟨0, 0, (Vector.replicate 16 (⟨false, []⟩ : J8))⟩ : T_api_Page), 8)
              else
                some (r10.1, 0)
          else
            if (decide (r10.1.LSN < y13.LSN)) then
              some ((⟨0, 0, (Vector.replicate 16 (⟨false, []⟩ : J8))⟩ : T_api_Page), 8)
            else
              some (r10.1, 0)
    else
      some ((⟨0, 0, (Vector.replicate 16 (⟨false, []⟩ : J8))⟩ : T_api_Page), 1)
  else
    some ((⟨0, 0, (Vector.replicate 16 (⟨false, []⟩ : J8))⟩ : T_api_Page), 28)
theorem Jeu {x0 : T_api_Index} {x1 : Int} {x2 : Int} {x3 : List UInt8} {o : T_api_Page × Int} (h : J3x x0 x1 x2 x3 = some o) :
    rk (J1 p) J4S 0 [] (X (J1 p) J04 ⟨[(0, .data (Jj x0)), (1, .p (.i .i64 x1)), (2, .p (.i .i64 x2)), (3, .p (.s x3))], []⟩) = Jca o := by
  unfold J3x at h
  obtain ⟨r1, h2, h⟩ := bi h
  have f3 := Jc8 p h2
  try simp only [Nf, J5] at f3
  try simp only [↓Da, Ua, J04, J5, J3, J2, J6, Jk, *, ↓reduceIte, Nat.reduceEqDiff, Nat.reduceAdd, Nat.reduceLT, Nat.reduceMul]
  rcases J9 h with ⟨h4, h⟩ | ⟨h4, h⟩
  · obtain ⟨r5, h6, h⟩ := bi h
    have f7 := Jc9 p h6
    try simp only [Nf, J5] at f7
    try simp only [↓Da, Ua, J04, J5, J3, J2, J6, Jk, *, ↓reduceIte, Nat.reduceEqDiff, Nat.reduceAdd, Nat.reduceLT, Nat.reduceMul]
    rcases J9 h with ⟨h8, h⟩ | ⟨h8, h⟩
    · try simp only [↓Da, Ua, J04, J5, J3, J2, J6, Jk, *, ↓reduceIte, Nat.reduceEqDiff, Nat.reduceAdd, Nat.reduceLT, Nat.reduceMul]
      rcases J9 h with ⟨h9, h⟩ | ⟨h9, h⟩
      · obtain rfl := sj h
        try simp only [↓Da, Ua, J04, J5, J3, J2, J6, Jk, J2c, *, ↓reduceIte, Nat.reduceEqDiff, Nat.reduceAdd, Nat.reduceLT, Nat.reduceMul]
        rfl
      · obtain ⟨r10, h11, h⟩ := bi h
        have f12 := JjG p h11
        try simp only [Nf, J5] at f12
        obtain ⟨y13, h14, h⟩ := bi h
        have f15 := J5J (r := Je) h14
        try simp only [Nf, J5] at f15
        try simp only [↓Da, Ua, J04, J5, J3, J2, J6, Jk, *, ↓reduceIte, Nat.reduceEqDiff, Nat.reduceAdd, Nat.reduceLT, Nat.reduceMul]
        rcases J9 h with ⟨h16, h⟩ | ⟨h16, h⟩
        · try try rw [h4] at h16
          obtain rfl := sj h
          try simp only [↓Da, Ua, J04, J5, J3, J2, J6, Jk, J2c, *, ↓reduceIte, Nat.reduceEqDiff, Nat.reduceAdd, Nat.reduceLT, Nat.reduceMul]
          rfl
        · try try rw [h4] at h16
          try simp only [↓Da, Ua, J04, J5, J3, J2, J6, Jk, *, ↓reduceIte, Nat.reduceEqDiff, Nat.reduceAdd, Nat.reduceLT, Nat.reduceMul]
          rcases J9 h with ⟨h17, h⟩ | ⟨h17, h⟩
          · try try rw [h4] at h17
            try simp only [↓Da, Ua, J04, J5, J3, J2, J6, Jk, *, ↓reduceIte, Nat.reduceEqDiff, Nat.reduceAdd, Nat.reduceLT, Nat.reduceMul]
            rcases J9 h with ⟨h18, h⟩ | ⟨h18, h⟩
            · try try rw [h4] at h18
              obtain rfl := sj h
              try simp only [↓Da, Ua, J04, J5, J3, J2, J6, Jk, J2c, *, ↓reduceIte, Nat.reduceEqDiff, Nat.reduceAdd, Nat.reduceLT, Nat.reduceMul]
              rfl
            · try try rw [h4] at h18
              try simp only [↓Da, Ua, J04, J5, J3, J2, J6, Jk, *, ↓reduceIte, Nat.reduceEqDiff, Nat.reduceAdd, Nat.reduceLT, Nat.reduceMul]
              rcases J9 h with ⟨h19, h⟩ | ⟨h19, h⟩
              · try try rw [h4] at h19
                obtain rfl := sj h
                try simp only [↓Da, Ua, J04, J5, J3, J2, J6, Jk, J2c, *, ↓reduceIte, Nat.reduceEqDiff, Nat.reduceAdd, Nat.reduceLT, Nat.reduceMul]
                rfl
              · try try rw [h4] at h19
                obtain rfl := sj h
                try simp only [↓Da, Ua, J04, J5, J3, J2, J6, Jk, J2c, *, ↓reduceIte, Nat.reduceEqDiff, Nat.reduceAdd, Nat.reduceLT, Nat.reduceMul]
                rfl
          · try try rw [h4] at h17
            try simp only [↓Da, Ua, J04, J5, J3, J2, J6, Jk, *, ↓reduceIte, Nat.reduceEqDiff, Nat.reduceAdd, Nat.reduceLT, Nat.reduceMul]
            rcases J9 h with ⟨h20, h⟩ | ⟨h20, h⟩
            · try try rw [h4] at h20
              obtain rfl := sj h
              try simp only [↓Da, Ua, J04, J5, J3, J2, J6, Jk, J2c, *, ↓reduceIte, Nat.reduceEqDiff, Nat.reduceAdd, Nat.reduceLT, Nat.reduceMul]
              rfl
            · try try rw [h4] at h20
              obtain rfl := sj h
              try simp only [↓Da, Ua, J04, J5, J3, J2, J6, Jk, J2c, *, ↓reduceIte, Nat.reduceEqDiff, Nat.reduceAdd, Nat.reduceLT, Nat.reduceMul]
              rfl
    · obtain rfl := sj h
      try simp only [↓Da, Ua, J04, J5, J3, J2, J6, Jk, J2c, *, ↓reduceIte, Nat.reduceEqDiff, Nat.reduceAdd, Nat.reduceLT, Nat.reduceMul]
      rfl
  · obtain rfl := sj h
    try simp only [↓Da, Ua, J04, J5, J3, J2, J6, Jk, J2c, *, ↓reduceIte, Nat.reduceEqDiff, Nat.reduceAdd, Nat.reduceLT, Nat.reduceMul]
    rfl
theorem Jhq {x0 : T_api_Index} {x1 : Int} {x2 : Int} {x3 : List UInt8} {o : T_api_Page × Int} (h : J3x x0 x1 x2 x3 = some o) : AF (J1 p) J4L [.data (Jj x0), .p (.i .i64 x1), .p (.i .i64 x2), .p (.s x3)] [] = Jca o :=
  (J0j (J1 p) (JhT p) rfl).trans (Jeu p h)
theorem JhZ {x0 : T_api_Index} {x1 : Int} {x2 : Int} {x3 : List UInt8} {o : T_api_Page × Int} (h : J3x x0 x1 x2 x3 = some o) : ∀ ws new st, (Jq (AF (J1 p)) J4L ([.data (Jj x0), .p (.i .i64 x1), .p (.i .i64 x2), .p (.s x3)], ws) 0 new).run st = some ⟨.tup [.data (J4 o.1), .p (.i .i64 o.2)], ws⟩ := Jz rfl (Jhq p h) rfl
def Jda  (r : T_api_Page × Int) : Option Res := some (.tup [.data (J4 r.1), .p (.i .i64 r.2)], [])
def J48 (x0 : List UInt8) (x1 : Int) : Option (T_api_Page × Int) :=
  if (decide (x1 < 0)) then
    some ((⟨0, 0, (Vector.replicate 16 (⟨false, []⟩ : J8))⟩ : T_api_Page), 1)
  else
    if (decide (x1 ≥ 64)) then
      some ((⟨0, 0, (Vector.replicate 16 (⟨false, []⟩ : J8))⟩ : T_api_Page), 1)
    else
      Option.bind (J5q x0) fun r3 =>
      if ((r3.2 : Int) == 7) then
        Option.bind (J94 x1) fun r7 =>
        some (r7, 0)
      else
        if ((r3.2 : Int) == 0) then
          if ((r3.1.ID : Int) != x1) then
            some ((⟨0, 0, (Vector.replicate 16 (⟨false, []⟩ : J8))⟩ : T_api_Page), 6)
          else
            some (r3.1, r3.2)
        else
          some (r3.1, r3.2)
theorem Jfx {x0 : List UInt8} {x1 : Int} {o : T_api_Page × Int} (h : J48 x0 x1 = some o) :
    rk (J1 p) J5x 0 [] (X (J1 p) J0O ⟨[(0, .p (.s x0)), (1, .p (.i .i64 x1))], []⟩) = Jda o := by
  unfold J48 at h
  rcases J9 h with ⟨h1, h⟩ | ⟨h1, h⟩
  · obtain rfl := sj h
    try simp only [↓Da, Ua, J0O, J3, J2, J6, J5h, *, ↓reduceIte, Nat.reduceEqDiff, Nat.reduceAdd, Nat.reduceLT, Nat.reduceMul]
    rfl
  · try simp only [↓Da, Ua, J0O, J3, J2, J6, *, ↓reduceIte, Nat.reduceEqDiff, Nat.reduceAdd, Nat.reduceLT, Nat.reduceMul]
    rcases J9 h with ⟨h2, h⟩ | ⟨h2, h⟩
    · obtain rfl := sj h
      try simp only [↓Da, Ua, J0O, J3, J2, J6, J5h, *, ↓reduceIte, Nat.reduceEqDiff, Nat.reduceAdd, Nat.reduceLT, Nat.reduceMul]
      rfl
    · obtain ⟨r3, h4, h⟩ := bi h
      have f5 := Jl1 p h4
      try simp only [Nf] at f5
      try simp only [↓Da, Ua, J0O, J3, J2, J6, *, ↓reduceIte, Nat.reduceEqDiff, Nat.reduceAdd, Nat.reduceLT, Nat.reduceMul]
      rcases J9 h with ⟨h6, h⟩ | ⟨h6, h⟩
      · have h6n : ((r3.2 : Int) != 7) = false := by rw [bne, h6]; rfl
        obtain ⟨r7, h8, h⟩ := bi h
        have f9 := JpK p h8
        try simp only [Nf] at f9
        obtain rfl := sj h
        try simp only [↓Da, Ua, J0O, J3, J2, J6, J5h, *, ↓reduceIte, Nat.reduceEqDiff, Nat.reduceAdd, Nat.reduceLT, Nat.reduceMul]
        rfl
      · have h6n : ((r3.2 : Int) != 7) = true := by rw [bne, h6]; rfl
        try simp only [↓Da, Ua, J0O, J3, J2, J6, *, ↓reduceIte, Nat.reduceEqDiff, Nat.reduceAdd, Nat.reduceLT, Nat.reduceMul]
        rcases J9 h with ⟨h10, h⟩ | ⟨h10, h⟩
        · have h10n : ((r3.2 : Int) != 0) = false := by rw [bne, h10]; rfl
          try simp only [↓Da, Ua, J0O, J3, J2, J6, *, ↓reduceIte, Nat.reduceEqDiff, Nat.reduceAdd, Nat.reduceLT, Nat.reduceMul]
          rcases J9 h with ⟨h11, h⟩ | ⟨h11, h⟩
          · obtain rfl := sj h
            try simp only [↓Da, Ua, J0O, J3, J2, J6, J5h, *, ↓reduceIte, Nat.reduceEqDiff, Nat.reduceAdd, Nat.reduceLT, Nat.reduceMul]
            rfl
          · obtain rfl := sj h
            try simp only [↓Da, Ua, J0O, J3, J2, J6, J5h, *, ↓reduceIte, Nat.reduceEqDiff, Nat.reduceAdd, Nat.reduceLT, Nat.reduceMul]
            rfl
        · have h10n : ((r3.2 : Int) != 0) = true := by rw [bne, h10]; rfl
          obtain rfl := sj h
          try simp only [↓Da, Ua, J0O, J3, J2, J6, J5h, *, ↓reduceIte, Nat.reduceEqDiff, Nat.reduceAdd, Nat.reduceLT, Nat.reduceMul]
          rfl
theorem Jjo {x0 : List UInt8} {x1 : Int} {o : T_api_Page × Int} (h : J48 x0 x1 = some o) : AF (J1 p) J5p [.p (.s x0), .p (.i .i64 x1)] [] = Jda o :=
  (J0j (J1 p) (JiY p) rfl).trans (Jfx p h)
theorem Jjy {x0 : List UInt8} {x1 : Int} {o : T_api_Page × Int} (h : J48 x0 x1 = some o) : ∀ ws new st, (Jq (AF (J1 p)) J5p ([.p (.s x0), .p (.i .i64 x1)], ws) 0 new).run st = some ⟨.tup [.data (J4 o.1), .p (.i .i64 o.2)], ws⟩ := Jz rfl (Jjo p h) rfl
end
end Go.Am
end
section
namespace Go.Am
set_option maxRecDepth 8000
set_option maxHeartbeats 4000000
set_option linter.unusedSimpArgs false
set_option linter.unusedVariables false
noncomputable section
variable (p : FuncId → Option (List AV → List Blk → Option Res))
def JfB  (r : T_api_Page × Int) : Option Res := some (.tup [.data (J4 r.1), .p (.i .i64 r.2)], [])
def J5W (x0 : T_api_Index) (x1 : Int) (x2 : Int) (x3 : List UInt8) : Option (T_api_Page × Int) :=
  Option.bind (J68 x0) fun r1 =>
  if r1 then
    if (decide (x1 < 0)) then
      some ((⟨0, 0, (Vector.replicate 16 (⟨false, []⟩ : J8))⟩ : T_api_Page), 1)
    else
      if (decide (x1 ≥ ((List.length x0.Rows : Nat) : Int))) then
        some ((⟨0, 0, (Vector.replicate 16 (⟨false, []⟩ : J8))⟩ : T_api_Page), 1)
      else
        if (decide (x2 < 0)) then
          some ((⟨0, 0, (Vector.replicate 16 (⟨false, []⟩ : J8))⟩ : T_api_Page), 1)
        else
          Option.bind (J48 x3 x1) fun r8 =>
          if ((r8.2 : Int) != 0) then
            some ((⟨0, 0, (Vector.replicate 16 (⟨false, []⟩ : J8))⟩ : T_api_Page), r8.2)
          else
            if (decide (r8.1.LSN > x2)) then
              Option.bind (idx x0.Rows x1) fun y13 =>
              if (decide (r8.1.LSN > y13.LSN)) then
                some ((⟨0, 0, (Vector.replicate 16 (⟨false, []⟩ : J8))⟩ : T_api_Page), 9)
              else
                if (decide (r8.1.LSN < y13.LSN)) then
                  some ((⟨0, 0, (Vector.replicate 16 (⟨false, []⟩ : J8))⟩ : T_api_Page), 8)
                else
                  some (r8.1, 0)
            else
              Option.bind (idx x0.Rows x1) fun y18 =>
              if (decide (r8.1.LSN < y18.LSN)) then
                some ((⟨0, 0, (Vector.replicate 16 (⟨false, []⟩ : J8))⟩ : T_api_Page), 8)
              else
                some (r8.1, 0)
  else
    some ((⟨0, 0, (Vector.replicate 16 (⟨false, []⟩ : J8))⟩ : T_api_Page), 28)
theorem JhS {x0 : T_api_Index} {x1 : Int} {x2 : Int} {x3 : List UInt8} {o : T_api_Page × Int} (h : J5W x0 x1 x2 x3 = some o) :
    rk (J1 p) J72 0 [] (X (J1 p) J0l ⟨[(0, .data (Jj x0)), (1, .p (.i .i64 x1)), (2, .p (.i .i64 x2)), (3, .p (.s x3))], []⟩) = JfB o := by
  unfold J5W at h
  obtain ⟨r1, h2, h⟩ := bi h
  have f3 := JmC p h2
  try simp only [Nf, J5] at f3
  try simp only [↓Da, Ua, J0l, J5, J3, J2, J6, Jk, *, ↓reduceIte, Nat.reduceEqDiff, Nat.reduceAdd, Nat.reduceLT, Nat.reduceMul]
  rcases J9 h with ⟨h4, h⟩ | ⟨h4, h⟩
  · try simp only [↓Da, Ua, J0l, J5, J3, J2, J6, Jk, *, ↓reduceIte, Nat.reduceEqDiff, Nat.reduceAdd, Nat.reduceLT, Nat.reduceMul]
    rcases J9 h with ⟨h5, h⟩ | ⟨h5, h⟩
    · obtain rfl := sj h
      try simp only [↓Da, Ua, J0l, J5, J3, J2, J6, Jk, J3e, *, ↓reduceIte, Nat.reduceEqDiff, Nat.reduceAdd, Nat.reduceLT, Nat.reduceMul]
      rfl
    · try simp only [↓Da, Ua, J0l, J5, J3, J2, J6, Jk, *, ↓reduceIte, Nat.reduceEqDiff, Nat.reduceAdd, Nat.reduceLT, Nat.reduceMul]
      rcases J9 h with ⟨h6, h⟩ | ⟨h6, h⟩
      · obtain rfl := sj h
        try simp only [↓Da, Ua, J0l, J5, J3, J2, J6, Jk, J3e, *, ↓reduceIte, Nat.reduceEqDiff, Nat.reduceAdd, Nat.reduceLT, Nat.reduceMul]
        rfl
      · try simp only [↓Da, Ua, J0l, J5, J3, J2, J6, Jk, *, ↓reduceIte, Nat.reduceEqDiff, Nat.reduceAdd, Nat.reduceLT, Nat.reduceMul]
        rcases J9 h with ⟨h7, h⟩ | ⟨h7, h⟩
        · obtain rfl := sj h
          try simp only [↓Da, Ua, J0l, J5, J3, J2, J6, Jk, J3e, *, ↓reduceIte, Nat.reduceEqDiff, Nat.reduceAdd, Nat.reduceLT, Nat.reduceMul]
          rfl
        · obtain ⟨r8, h9, h⟩ := bi h
          have f10 := Jjy p h9
          try simp only [Nf, J5] at f10
          try simp only [↓Da, Ua, J0l, J5, J3, J2, J6, Jk, *, ↓reduceIte, Nat.reduceEqDiff, Nat.reduceAdd, Nat.reduceLT, Nat.reduceMul]
          rcases J9 h with ⟨h11, h⟩ | ⟨h11, h⟩
          · obtain rfl := sj h
            try simp only [↓Da, Ua, J0l, J5, J3, J2, J6, Jk, J3e, *, ↓reduceIte, Nat.reduceEqDiff, Nat.reduceAdd, Nat.reduceLT, Nat.reduceMul]
            rfl
          · try simp only [↓Da, Ua, J0l, J5, J3, J2, J6, Jk, *, ↓reduceIte, Nat.reduceEqDiff, Nat.reduceAdd, Nat.reduceLT, Nat.reduceMul]
            rcases J9 h with ⟨h12, h⟩ | ⟨h12, h⟩
            · obtain ⟨y13, h14, h⟩ := bi h
              have f15 := J5J (r := Je) h14
              try simp only [Nf, J5] at f15
              try simp only [↓Da, Ua, J0l, J5, J3, J2, J6, Jk, *, ↓reduceIte, Nat.reduceEqDiff, Nat.reduceAdd, Nat.reduceLT, Nat.reduceMul]
              rcases J9 h with ⟨h16, h⟩ | ⟨h16, h⟩
              · obtain rfl := sj h
                try simp only [↓Da, Ua, J0l, J5, J3, J2, J6, Jk, J3e, *, ↓reduceIte, Nat.reduceEqDiff, Nat.reduceAdd, Nat.reduceLT, Nat.reduceMul]
                rfl
              · try simp only [↓Da, Ua, J0l, J5, J3, J2, J6, Jk, *, ↓reduceIte, Nat.reduceEqDiff, Nat.reduceAdd, Nat.reduceLT, Nat.reduceMul]
                rcases J9 h with ⟨h17, h⟩ | ⟨h17, h⟩
                · obtain rfl := sj h
                  try simp only [↓Da, Ua, J0l, J5, J3, J2, J6, Jk, J3e, *, ↓reduceIte, Nat.reduceEqDiff, Nat.reduceAdd, Nat.reduceLT, Nat.reduceMul]
                  rfl
                · obtain rfl := sj h
                  try simp only [↓Da, Ua, J0l, J5, J3, J2, J6, Jk, J3e, *, ↓reduceIte, Nat.reduceEqDiff, Nat.reduceAdd, Nat.reduceLT, Nat.reduceMul]
                  rfl
            · obtain ⟨y18, h19, h⟩ := bi h
              have f20 := J5J (r := Je) h19
              try simp only [Nf, J5] at f20
              try simp only [↓Da, Ua, J0l, J5, J3, J2, J6, Jk, *, ↓reduceIte, Nat.reduceEqDiff, Nat.reduceAdd, Nat.reduceLT, Nat.reduceMul]
              rcases J9 h with ⟨h21, h⟩ | ⟨h21, h⟩
              · obtain rfl := sj h
                try simp only [↓Da, Ua, J0l, J5, J3, J2, J6, Jk, J3e, *, ↓reduceIte, Nat.reduceEqDiff, Nat.reduceAdd, Nat.reduceLT, Nat.reduceMul]
                rfl
              · obtain rfl := sj h
                try simp only [↓Da, Ua, J0l, J5, J3, J2, J6, Jk, J3e, *, ↓reduceIte, Nat.reduceEqDiff, Nat.reduceAdd, Nat.reduceLT, Nat.reduceMul]
                rfl
  · obtain rfl := sj h
    try simp only [↓Da, Ua, J0l, J5, J3, J2, J6, Jk, J3e, *, ↓reduceIte, Nat.reduceEqDiff, Nat.reduceAdd, Nat.reduceLT, Nat.reduceMul]
    rfl
theorem Jmw {x0 : T_api_Index} {x1 : Int} {x2 : Int} {x3 : List UInt8} {o : T_api_Page × Int} (h : J5W x0 x1 x2 x3 = some o) : AF (J1 p) J76 [.data (Jj x0), .p (.i .i64 x1), .p (.i .i64 x2), .p (.s x3)] [] = JfB o :=
  (J0j (J1 p) (Jms p) rfl).trans (JhS p h)
theorem Jmj {x0 : T_api_Index} {x1 : Int} {x2 : Int} {x3 : List UInt8} {o : T_api_Page × Int} (h : J5W x0 x1 x2 x3 = some o) : ∀ ws new st, (Jq (AF (J1 p)) J76 ([.data (Jj x0), .p (.i .i64 x1), .p (.i .i64 x2), .p (.s x3)], ws) 0 new).run st = some ⟨.tup [.data (J4 o.1), .p (.i .i64 o.2)], ws⟩ := Jz rfl (Jmw p h) rfl
def J2u  (r : Bool) : Option Res := some (.p (.b r), [])
def J2Z (x2 : Int) (x3 : Int) (x4 : List UInt8) (x14 : List UInt8) (x66 : List T_api_Index) (x67 : Int) (b3 : T_api_Page) (B0 : List PV) (B2 : List PV) (o : (Int × T_pagemenddraw_Codes) ⊕ (Bool)) : Option Res := match o with
  | .inl s => rk (J1 p) JH 0 [.bl 0, .td 4 [10], .sq (.keep [] JQ)] (X (J1 p) (.lp 4 [2, 3, 4, 11, 13, 14, 66, 67, 68] JM) ⟨[(2, .p (.i .i64 x2)), (3, .p (.i .i64 x3)), (4, .p (.s x4)), (11, .ptr 1 0), (13, .ptr 3 0), (14, .p (.s x14)), (66, .p (.sl 1 (List.map Jj x66))), (67, .p (.i .i64 x67)), (68, .p (.i .i64 s.1))], [.box (List.map AV.p B0), .box (List.map AV.p (J0 s.2)), .box (List.map AV.p B2), .box (List.map AV.p (J4 b3))]⟩)
  | .inr o => J2u o
def J32 (x2 : Int) (x3 : Int) (x4 : List UInt8) (x14 : List UInt8) (x66 : List T_api_Index) (x67 : Int) (x68 : Int) (x78 : List (List UInt8)) (x79 : Int) (b3 : T_api_Page) (b4 : T_api_Index) (B0 : List PV) (B2 : List PV) (o : (Int × T_pagemenddraw_Codes) ⊕ (((Int × T_pagemenddraw_Codes) ⊕ (Bool)))) : Option Res := match o with
  | .inl s => rk (J1 p) JH 0 [.bl 2, .bl 1, .td 4 [2, 3, 4, 10, 11, 13, 14, 66, 67, 68], .sq (.keep [2, 3, 4, 11, 13, 14, 66, 67, 68] J0e), .lo 4 [2, 3, 4, 11, 13, 14, 66, 67, 68] JM, .bl 0, .td 4 [10], .sq (.keep [] JQ)] (X (J1 p) (.lp 5 [2, 3, 4, 11, 13, 14, 17, 66, 67, 68, 78, 79, 80] J08) ⟨[(2, .p (.i .i64 x2)), (3, .p (.i .i64 x3)), (4, .p (.s x4)), (11, .ptr 1 0), (13, .ptr 3 0), (14, .p (.s x14)), (17, .ptr 4 0), (66, .p (.sl 1 (List.map Jj x66))), (67, .p (.i .i64 x67)), (68, .p (.i .i64 x68)), (78, .p (.sl 1 (List.map r_s x78))), (79, .p (.i .i64 x79)), (80, .p (.i .i64 s.1))], [.box (List.map AV.p B0), .box (List.map AV.p (J0 s.2)), .box (List.map AV.p B2), .box (List.map AV.p (J4 b3)), .box (List.map AV.p (Jj b4))]⟩)
  | .inr o => (J2Z p x2 x3 x4 x14 x66 x67 b3 B0 B2) o
def Jck (x2 : Int) (x3 : Int) (x4 : List UInt8) (x14 : List UInt8) (x19 : List UInt8) (x66 : List T_api_Index) (x67 : Int) (x68 : Int) (x78 : List (List UInt8)) (x79 : Int) (x80 : Int) (x101 : List (Vector Int 2)) (x102 : Int) (b1 : T_pagemenddraw_Codes) (b3 : T_api_Page) (b4 : T_api_Index) (B0 : List PV) (B2 : List PV) (o : (Int) ⊕ (((Int × T_pagemenddraw_Codes) ⊕ (((Int × T_pagemenddraw_Codes) ⊕ (Bool)))))) : Option Res := match o with
  | .inl s => rk (J1 p) JH 0 [.bl 4, .bl 3, .td 5 [2, 3, 4, 10, 11, 13, 14, 17, 66, 67, 68, 78, 79, 80], .sq (.keep [2, 3, 4, 11, 13, 14, 17, 66, 67, 68, 78, 79, 80] J1t), .lo 5 [2, 3, 4, 11, 13, 14, 17, 66, 67, 68, 78, 79, 80] J08, .bl 2, .bl 1, .td 4 [2, 3, 4, 10, 11, 13, 14, 66, 67, 68], .sq (.keep [2, 3, 4, 11, 13, 14, 66, 67, 68] J0e), .lo 4 [2, 3, 4, 11, 13, 14, 66, 67, 68] JM, .bl 0, .td 4 [10], .sq (.keep [] JQ)] (X (J1 p) (.lp 5 [2, 3, 4, 11, 13, 14, 17, 19, 66, 67, 68, 78, 79, 80, 101, 102, 103] J0d) ⟨[(2, .p (.i .i64 x2)), (3, .p (.i .i64 x3)), (4, .p (.s x4)), (11, .ptr 1 0), (13, .ptr 3 0), (14, .p (.s x14)), (17, .ptr 4 0), (19, .p (.s x19)), (66, .p (.sl 1 (List.map Jj x66))), (67, .p (.i .i64 x67)), (68, .p (.i .i64 x68)), (78, .p (.sl 1 (List.map r_s x78))), (79, .p (.i .i64 x79)), (80, .p (.i .i64 x80)), (101, .p (.sl 2 (List.map (JO (r_i .i64)) x101))), (102, .p (.i .i64 x102)), (103, .p (.i .i64 s))], [.box (List.map AV.p B0), .box (List.map AV.p (J0 b1)), .box (List.map AV.p B2), .box (List.map AV.p (J4 b3)), .box (List.map AV.p (Jj b4))]⟩)
  | .inr o => (J32 p x2 x3 x4 x14 x66 x67 x68 x78 x79 b3 b4 B0 B2) o
def J4s (x2 : Int) (x3 : Int) (x4 : List UInt8) (x14 : List UInt8) (x66 : List T_api_Index) (x67 : Int) (x68 : Int) (x78 : List (List UInt8)) (x79 : Int) (x80 : Int) (b1 : T_pagemenddraw_Codes) (b3 : T_api_Page) (b4 : T_api_Index) : Option (((Int × T_pagemenddraw_Codes) ⊕ (((Int × T_pagemenddraw_Codes) ⊕ (Bool))))) :=
  some (.inl ((IntKind.wrap .i64 (x80 + 1)), b1))
theorem Jcu {x2 : Int} {x3 : Int} {x4 : List UInt8} {x14 : List UInt8} {x66 : List T_api_Index} {x67 : Int} {x68 : Int} {x78 : List (List UInt8)} {x79 : Int} {x80 : Int} {b1 : T_pagemenddraw_Codes} {b3 : T_api_Page} {b4 : T_api_Index} {B0 : List PV} {B2 : List PV} {o : ((Int × T_pagemenddraw_Codes) ⊕ (((Int × T_pagemenddraw_Codes) ⊕ (Bool))))} (h : J4s x2 x3 x4 x14 x66 x67 x68 x78 x79 x80 b1 b3 b4 = some o) :
    rk (J1 p) JH 0 [.lo 5 [2, 3, 4, 11, 13, 14, 17, 66, 67, 68, 78, 79, 80] J08, .bl 2, .bl 1, .td 4 [2, 3, 4, 10, 11, 13, 14, 66, 67, 68], .sq (.keep [2, 3, 4, 11, 13, 14, 66, 67, 68] J0e), .lo 4 [2, 3, 4, 11, 13, 14, 66, 67, 68] JM, .bl 0, .td 4 [10], .sq (.keep [] JQ)] (X (J1 p) J1t ⟨[(2, .p (.i .i64 x2)), (3, .p (.i .i64 x3)), (4, .p (.s x4)), (11, .ptr 1 0), (13, .ptr 3 0), (14, .p (.s x14)), (17, .ptr 4 0), (66, .p (.sl 1 (List.map Jj x66))), (67, .p (.i .i64 x67)), (68, .p (.i .i64 x68)), (78, .p (.sl 1 (List.map r_s x78))), (79, .p (.i .i64 x79)), (80, .p (.i .i64 x80))], [.box (List.map AV.p B0), .box (List.map AV.p (J0 b1)), .box (List.map AV.p B2), .box (List.map AV.p (J4 b3)), .box (List.map AV.p (Jj b4))]⟩) = (J32 p x2 x3 x4 x14 x66 x67 x68 x78 x79 b3 b4 B0 B2) o := by
  unfold J4s at h
  obtain rfl := sj h
  try simp only [↓Da, Ua, J1t, ↓reduceIte, Nat.reduceEqDiff, Nat.reduceAdd, Nat.reduceLT, Nat.reduceMul]
  rfl
def J1r (x2 : Int) (x3 : Int) (x4 : List UInt8) (x14 : List UInt8) (x19 : List UInt8) (x66 : List T_api_Index) (x67 : Int) (x68 : Int) (x78 : List (List UInt8)) (x79 : Int) (x80 : Int) (x101 : List (Vector Int 2)) (x102 : Int) (b1 : T_pagemenddraw_Codes) (b3 : T_api_Page) (b4 : T_api_Index) (x103 : Int) : Option (((Int) ⊕ (((Int × T_pagemenddraw_Codes) ⊕ (((Int × T_pagemenddraw_Codes) ⊕ (Bool))))))) :=
  if (decide (x103 < x102)) then
    Option.bind (idx x101 x103) fun y2 =>
    Option.bind (inb 2 0) fun u5 =>
    Option.bind (J6Z y2 0) fun y8 =>
    Option.bind (inb 2 1) fun u11 =>
    Option.bind (J6Z y2 1) fun y14 =>
    Option.bind (J3x b4 y8 y14 x19) fun r17 =>
    Option.bind (J5W b4 y8 y14 x19) fun r22 =>
    if (r17.1 == r22.1) then
      if ((r17.2 : Int) != r22.2) then
        some (.inr (.inr (.inr false)))
      else
        some (.inl (IntKind.wrap .i64 (x103 + 1)))
    else
      some (.inr (.inr (.inr false)))
  else
    Option.map (fun o => .inr o) (J4s x2 x3 x4 x14 x66 x67 x68 x78 x79 x80 b1 b3 b4)
theorem J9r {x2 : Int} {x3 : Int} {x4 : List UInt8} {x14 : List UInt8} {x19 : List UInt8} {x66 : List T_api_Index} {x67 : Int} {x68 : Int} {x78 : List (List UInt8)} {x79 : Int} {x80 : Int} {x101 : List (Vector Int 2)} {x102 : Int} {b1 : T_pagemenddraw_Codes} {b3 : T_api_Page} {b4 : T_api_Index} {x103 : Int} {B0 : List PV} {B2 : List PV} {o : ((Int) ⊕ (((Int × T_pagemenddraw_Codes) ⊕ (((Int × T_pagemenddraw_Codes) ⊕ (Bool))))))} (h : J1r x2 x3 x4 x14 x19 x66 x67 x68 x78 x79 x80 x101 x102 b1 b3 b4 x103 = some o) :
    rk (J1 p) JH 0 [.lo 5 [2, 3, 4, 11, 13, 14, 17, 19, 66, 67, 68, 78, 79, 80, 101, 102, 103] J0d, .bl 4, .bl 3, .td 5 [2, 3, 4, 10, 11, 13, 14, 17, 66, 67, 68, 78, 79, 80], .sq (.keep [2, 3, 4, 11, 13, 14, 17, 66, 67, 68, 78, 79, 80] J1t), .lo 5 [2, 3, 4, 11, 13, 14, 17, 66, 67, 68, 78, 79, 80] J08, .bl 2, .bl 1, .td 4 [2, 3, 4, 10, 11, 13, 14, 66, 67, 68], .sq (.keep [2, 3, 4, 11, 13, 14, 66, 67, 68] J0e), .lo 4 [2, 3, 4, 11, 13, 14, 66, 67, 68] JM, .bl 0, .td 4 [10], .sq (.keep [] JQ)] (X (J1 p) J0d ⟨[(2, .p (.i .i64 x2)), (3, .p (.i .i64 x3)), (4, .p (.s x4)), (11, .ptr 1 0), (13, .ptr 3 0), (14, .p (.s x14)), (17, .ptr 4 0), (19, .p (.s x19)), (66, .p (.sl 1 (List.map Jj x66))), (67, .p (.i .i64 x67)), (68, .p (.i .i64 x68)), (78, .p (.sl 1 (List.map r_s x78))), (79, .p (.i .i64 x79)), (80, .p (.i .i64 x80)), (101, .p (.sl 2 (List.map (JO (r_i .i64)) x101))), (102, .p (.i .i64 x102)), (103, .p (.i .i64 x103))], [.box (List.map AV.p B0), .box (List.map AV.p (J0 b1)), .box (List.map AV.p B2), .box (List.map AV.p (J4 b3)), .box (List.map AV.p (Jj b4))]⟩) = (Jck p x2 x3 x4 x14 x19 x66 x67 x68 x78 x79 x80 x101 x102 b1 b3 b4 B0 B2) o := by
  unfold J1r at h
  rcases J9 h with ⟨h1, h⟩ | ⟨h1, h⟩
  · obtain ⟨y2, h3, h⟩ := bi h
    have f4 := J5J (r := (JO (r_i .i64))) h3
    try simp only [Nf, J5] at f4
    obtain ⟨u5, h6, h⟩ := bi h
    have f7 : (0 ≤ (0 : Int) ∧ (0 : Int) < ((2 : Nat) : Int)) = True := eq_true (J8h h6)
    obtain ⟨y8, h9, h⟩ := bi h
    have f10 : sub ((JO (r_i .i64)) y2) (Int.toNat 0 * 1) 1 = some ((r_i .i64) y8) := by
      have e0 := (J7y (v := y2) (J5j .i64) (J3a h9).2)
      exact e0
    try simp only [Nf, J5] at f10
    obtain ⟨u11, h12, h⟩ := bi h
    have f13 : (0 ≤ (1 : Int) ∧ (1 : Int) < ((2 : Nat) : Int)) = True := eq_true (J8h h12)
    obtain ⟨y14, h15, h⟩ := bi h
    have f16 : sub ((JO (r_i .i64)) y2) (Int.toNat 1 * 1) 1 = some ((r_i .i64) y14) := by
      have e0 := (J7y (v := y2) (J5j .i64) (J3a h15).2)
      exact e0
    try simp only [Nf, J5] at f16
    obtain ⟨r17, h18, h⟩ := bi h
    have f19 := JhZ p h18
    try simp only [Nf, J5] at f19
    have f20 : sub ((JO (r_i .i64)) y2) (Int.toNat 0 * 1) 1 = some ((r_i .i64) y8) := by
      have e0 := (J7y (v := y2) (J5j .i64) (J3a h9).2)
      exact e0
    try simp only [Nf, J5] at f20
    have f21 : sub ((JO (r_i .i64)) y2) (Int.toNat 1 * 1) 1 = some ((r_i .i64) y14) := by
      have e0 := (J7y (v := y2) (J5j .i64) (J3a h15).2)
      exact e0
    try simp only [Nf, J5] at f21
    obtain ⟨r22, h23, h⟩ := bi h
    have f24 := Jmj p h23
    try simp only [Nf, J5] at f24
    try simp only [↓Da, Ua, J0d, J5, J3, J2, J6, J4h, Jk, J9F, *, ↓reduceIte, Nat.reduceEqDiff, Nat.reduceAdd, Nat.reduceLT, Nat.reduceMul]
    rcases J9 h with ⟨h26, h⟩ | ⟨h26, h⟩
    · try simp only [↓Da, Ua, J0d, J5, J3, J2, J6, J4h, Jk, J9F, *, ↓reduceIte, Nat.reduceEqDiff, Nat.reduceAdd, Nat.reduceLT, Nat.reduceMul]
      rcases J9 h with ⟨h27, h⟩ | ⟨h27, h⟩
      · obtain rfl := sj h
        try simp only [↓Da, Ua, J0d, J5, J3, J2, J6, J4h, Jk, J9F, J1M, *, ↓reduceIte, Nat.reduceEqDiff, Nat.reduceAdd, Nat.reduceLT, Nat.reduceMul]
        rfl
      · obtain rfl := sj h
        try simp only [↓Da, Ua, J0d, J5, J3, J2, J6, J4h, Jk, J9F, *, ↓reduceIte, Nat.reduceEqDiff, Nat.reduceAdd, Nat.reduceLT, Nat.reduceMul]
        rfl
    · obtain rfl := sj h
      try simp only [↓Da, Ua, J0d, J5, J3, J2, J6, J4h, Jk, J9F, J1M, *, ↓reduceIte, Nat.reduceEqDiff, Nat.reduceAdd, Nat.reduceLT, Nat.reduceMul]
      rfl
  · obtain ⟨o', h', rfl⟩ := mi h
    try simp only [↓Da, Ua, J0d, J5, J3, J2, J6, J4h, Jk, *, ↓reduceIte, Nat.reduceEqDiff, Nat.reduceAdd, Nat.reduceLT, Nat.reduceMul]
    have e0 := Jcu p (B0 := B0) (B2 := B2) h'
    exact e0
def J6l (x2 : Int) (x3 : Int) (x4 : List UInt8) (x14 : List UInt8) (x19 : List UInt8) (x66 : List T_api_Index) (x67 : Int) (x68 : Int) (x78 : List (List UInt8)) (x79 : Int) (x80 : Int) (x101 : List (Vector Int 2)) (x102 : Int) (b1 : T_pagemenddraw_Codes) (b3 : T_api_Page) (b4 : T_api_Index) (s : Int) : Option (((Int × T_pagemenddraw_Codes) ⊕ (((Int × T_pagemenddraw_Codes) ⊕ (Bool))))) :=
  JK (fun s => J1r x2 x3 x4 x14 x19 x66 x67 x68 x78 x79 x80 x101 x102 b1 b3 b4 s) s
theorem JbN {x2 : Int} {x3 : Int} {x4 : List UInt8} {x14 : List UInt8} {x19 : List UInt8} {x66 : List T_api_Index} {x67 : Int} {x68 : Int} {x78 : List (List UInt8)} {x79 : Int} {x80 : Int} {x101 : List (Vector Int 2)} {x102 : Int} {b1 : T_pagemenddraw_Codes} {b3 : T_api_Page} {b4 : T_api_Index} {B0 : List PV} {B2 : List PV} {s : Int} {o : ((Int × T_pagemenddraw_Codes) ⊕ (((Int × T_pagemenddraw_Codes) ⊕ (Bool))))} (h : J6l x2 x3 x4 x14 x19 x66 x67 x68 x78 x79 x80 x101 x102 b1 b3 b4 s = some o) :
    rk (J1 p) JH 0 [.bl 4, .bl 3, .td 5 [2, 3, 4, 10, 11, 13, 14, 17, 66, 67, 68, 78, 79, 80], .sq (.keep [2, 3, 4, 11, 13, 14, 17, 66, 67, 68, 78, 79, 80] J1t), .lo 5 [2, 3, 4, 11, 13, 14, 17, 66, 67, 68, 78, 79, 80] J08, .bl 2, .bl 1, .td 4 [2, 3, 4, 10, 11, 13, 14, 66, 67, 68], .sq (.keep [2, 3, 4, 11, 13, 14, 66, 67, 68] J0e), .lo 4 [2, 3, 4, 11, 13, 14, 66, 67, 68] JM, .bl 0, .td 4 [10], .sq (.keep [] JQ)] (X (J1 p) (.lp 5 [2, 3, 4, 11, 13, 14, 17, 19, 66, 67, 68, 78, 79, 80, 101, 102, 103] J0d) ⟨[(2, .p (.i .i64 x2)), (3, .p (.i .i64 x3)), (4, .p (.s x4)), (11, .ptr 1 0), (13, .ptr 3 0), (14, .p (.s x14)), (17, .ptr 4 0), (19, .p (.s x19)), (66, .p (.sl 1 (List.map Jj x66))), (67, .p (.i .i64 x67)), (68, .p (.i .i64 x68)), (78, .p (.sl 1 (List.map r_s x78))), (79, .p (.i .i64 x79)), (80, .p (.i .i64 x80)), (101, .p (.sl 2 (List.map (JO (r_i .i64)) x101))), (102, .p (.i .i64 x102)), (103, .p (.i .i64 s))], [.box (List.map AV.p B0), .box (List.map AV.p (J0 b1)), .box (List.map AV.p B2), .box (List.map AV.p (J4 b3)), .box (List.map AV.p (Jj b4))]⟩) = (J32 p x2 x3 x4 x14 x66 x67 x68 x78 x79 b3 b4 B0 B2) o := by
  have h0 : JK (fun s => J1r x2 x3 x4 x14 x19 x66 x67 x68 x78 x79 x80 x101 x102 b1 b3 b4 s) s = some o := h
  exact J10 (P := fun (s : Int) (o : ((Int × T_pagemenddraw_Codes) ⊕ (((Int × T_pagemenddraw_Codes) ⊕ (Bool))))) => rk (J1 p) JH 0 [.bl 4, .bl 3, .td 5 [2, 3, 4, 10, 11, 13, 14, 17, 66, 67, 68, 78, 79, 80], .sq (.keep [2, 3, 4, 11, 13, 14, 17, 66, 67, 68, 78, 79, 80] J1t), .lo 5 [2, 3, 4, 11, 13, 14, 17, 66, 67, 68, 78, 79, 80] J08, .bl 2, .bl 1, .td 4 [2, 3, 4, 10, 11, 13, 14, 66, 67, 68], .sq (.keep [2, 3, 4, 11, 13, 14, 66, 67, 68] J0e), .lo 4 [2, 3, 4, 11, 13, 14, 66, 67, 68] JM, .bl 0, .td 4 [10], .sq (.keep [] JQ)] (X (J1 p) (.lp 5 [2, 3, 4, 11, 13, 14, 17, 19, 66, 67, 68, 78, 79, 80, 101, 102, 103] J0d) ⟨[(2, .p (.i .i64 x2)), (3, .p (.i .i64 x3)), (4, .p (.s x4)), (11, .ptr 1 0), (13, .ptr 3 0), (14, .p (.s x14)), (17, .ptr 4 0), (19, .p (.s x19)), (66, .p (.sl 1 (List.map Jj x66))), (67, .p (.i .i64 x67)), (68, .p (.i .i64 x68)), (78, .p (.sl 1 (List.map r_s x78))), (79, .p (.i .i64 x79)), (80, .p (.i .i64 x80)), (101, .p (.sl 2 (List.map (JO (r_i .i64)) x101))), (102, .p (.i .i64 x102)), (103, .p (.i .i64 s))], [.box (List.map AV.p B0), .box (List.map AV.p (J0 b1)), .box (List.map AV.p B2), .box (List.map AV.p (J4 b3)), .box (List.map AV.p (Jj b4))]⟩) = (J32 p x2 x3 x4 x14 x66 x67 x68 x78 x79 b3 b4 B0 B2) o) (fun s r hs => by rw [J0Z]; exact J9r p hs) (fun s s1 r hs ih => by rw [J0Z]; exact (J9r p hs).trans ih) h0
def J4r (x2 : Int) (x3 : Int) (x4 : List UInt8) (x14 : List UInt8) (x66 : List T_api_Index) (x67 : Int) (x68 : Int) (b1 : T_pagemenddraw_Codes) (b3 : T_api_Page) : Option (((Int × T_pagemenddraw_Codes) ⊕ (Bool))) :=
  some (.inl ((IntKind.wrap .i64 (x68 + 1)), b1))
theorem Jcq {x2 : Int} {x3 : Int} {x4 : List UInt8} {x14 : List UInt8} {x66 : List T_api_Index} {x67 : Int} {x68 : Int} {b1 : T_pagemenddraw_Codes} {b3 : T_api_Page} {B0 : List PV} {B2 : List PV} {o : ((Int × T_pagemenddraw_Codes) ⊕ (Bool))} (h : J4r x2 x3 x4 x14 x66 x67 x68 b1 b3 = some o) :
    rk (J1 p) JH 0 [.lo 4 [2, 3, 4, 11, 13, 14, 66, 67, 68] JM, .bl 0, .td 4 [10], .sq (.keep [] JQ)] (X (J1 p) J0e ⟨[(2, .p (.i .i64 x2)), (3, .p (.i .i64 x3)), (4, .p (.s x4)), (11, .ptr 1 0), (13, .ptr 3 0), (14, .p (.s x14)), (66, .p (.sl 1 (List.map Jj x66))), (67, .p (.i .i64 x67)), (68, .p (.i .i64 x68))], [.box (List.map AV.p B0), .box (List.map AV.p (J0 b1)), .box (List.map AV.p B2), .box (List.map AV.p (J4 b3))]⟩) = (J2Z p x2 x3 x4 x14 x66 x67 b3 B0 B2) o := by
  unfold J4r at h
  obtain rfl := sj h
  try simp only [↓Da, Ua, J0e, ↓reduceIte, Nat.reduceEqDiff, Nat.reduceAdd, Nat.reduceLT, Nat.reduceMul]
  rfl
def J1s (x2 : Int) (x3 : Int) (x4 : List UInt8) (x14 : List UInt8) (x66 : List T_api_Index) (x67 : Int) (x68 : Int) (x78 : List (List UInt8)) (x79 : Int) (b3 : T_api_Page) (b4 : T_api_Index) (x80 : Int) (b1 : T_pagemenddraw_Codes) : Option (((Int × T_pagemenddraw_Codes) ⊕ (((Int × T_pagemenddraw_Codes) ⊕ (Bool))))) :=
  if (decide (x80 < x79)) then
    Option.bind (idx x78 x80) fun y2 =>
    Option.bind (Jv b1 60) fun r9 =>
    Option.bind (Jv r9.2 6) fun r15 =>
    Option.bind (Jv r15.2 60) fun r19 =>
    J6l x2 x3 x4 x14 y2 x66 x67 x68 x78 x79 x80 ([(#v[x2, x3] : Vector Int 2), (#v[b3.ID, x3] : Vector Int 2), (#v[b3.ID, r9.1] : Vector Int 2), (#v[r15.1, r19.1] : Vector Int 2)] : List (Vector Int 2)) ((List.length ([(#v[x2, x3] : Vector Int 2), (#v[b3.ID, x3] : Vector Int 2), (#v[b3.ID, r9.1] : Vector Int 2), (#v[r15.1, r19.1] : Vector Int 2)] : List (Vector Int 2)) : Nat) : Int) r19.2 b3 b4 0
  else
    Option.map (fun o => .inr o) (J4r x2 x3 x4 x14 x66 x67 x68 b1 b3)
theorem J9k {x2 : Int} {x3 : Int} {x4 : List UInt8} {x14 : List UInt8} {x66 : List T_api_Index} {x67 : Int} {x68 : Int} {x78 : List (List UInt8)} {x79 : Int} {b3 : T_api_Page} {b4 : T_api_Index} {x80 : Int} {b1 : T_pagemenddraw_Codes} {B0 : List PV} {B2 : List PV} {o : ((Int × T_pagemenddraw_Codes) ⊕ (((Int × T_pagemenddraw_Codes) ⊕ (Bool))))} (h : J1s x2 x3 x4 x14 x66 x67 x68 x78 x79 b3 b4 x80 b1 = some o) :
    rk (J1 p) JH 0 [.lo 5 [2, 3, 4, 11, 13, 14, 17, 66, 67, 68, 78, 79, 80] J08, .bl 2, .bl 1, .td 4 [2, 3, 4, 10, 11, 13, 14, 66, 67, 68], .sq (.keep [2, 3, 4, 11, 13, 14, 66, 67, 68] J0e), .lo 4 [2, 3, 4, 11, 13, 14, 66, 67, 68] JM, .bl 0, .td 4 [10], .sq (.keep [] JQ)] (X (J1 p) J08 ⟨[(2, .p (.i .i64 x2)), (3, .p (.i .i64 x3)), (4, .p (.s x4)), (11, .ptr 1 0), (13, .ptr 3 0), (14, .p (.s x14)), (17, .ptr 4 0), (66, .p (.sl 1 (List.map Jj x66))), (67, .p (.i .i64 x67)), (68, .p (.i .i64 x68)), (78, .p (.sl 1 (List.map r_s x78))), (79, .p (.i .i64 x79)), (80, .p (.i .i64 x80))], [.box (List.map AV.p B0), .box (List.map AV.p (J0 b1)), .box (List.map AV.p B2), .box (List.map AV.p (J4 b3)), .box (List.map AV.p (Jj b4))]⟩) = (J32 p x2 x3 x4 x14 x66 x67 x68 x78 x79 b3 b4 B0 B2) o := by
  unfold J1s at h
  rcases J9 h with ⟨h1, h⟩ | ⟨h1, h⟩
  · obtain ⟨y2, h3, h⟩ := bi h
    have f4 := J5J (r := r_s) h3
    try simp only [Nf] at f4
    have f5 : spl (JO (r_i .i64) (Vector.replicate 2 0)) 0 [.i .i64 x2] = some (JO (r_i .i64) (#v[x2, 0] : Vector Int 2)) := rfl
    have f6 : spl (JO (r_i .i64) (#v[x2, 0] : Vector Int 2)) 1 [.i .i64 x3] = some (JO (r_i .i64) (#v[x2, x3] : Vector Int 2)) := rfl
    have f7 : spl (JO (r_i .i64) (Vector.replicate 2 0)) 0 [.i .i64 b3.ID] = some (JO (r_i .i64) (#v[b3.ID, 0] : Vector Int 2)) := rfl
    have f8 : spl (JO (r_i .i64) (#v[b3.ID, 0] : Vector Int 2)) 1 [.i .i64 x3] = some (JO (r_i .i64) (#v[b3.ID, x3] : Vector Int 2)) := rfl
    obtain ⟨r9, h10, h⟩ := bi h
    have f11 : ∀ ws new s, JP ws s [1] [List.map AV.p (J0 b1)] → (Jq (AF (J1 p)) Jc ([.ptr 1 0, .p (.i .i64 60)], ws) 0 new).run s = some ⟨.p (.i .i64 r9.1), ws ++ [(1, .box (List.map AV.p (J0 r9.2)))]⟩ := JG (args' := [.ptr 0 0, .p (.i .i64 60)]) (bs := [1]) (css := [List.map AV.p (J0 b1)]) (css' := [List.map AV.p (J0 r9.2)]) rfl rfl rfl (by simp [Jo, Jb]) (JC p h10) rfl rfl (by simp [Jo, Jb])
    try simp only [Nf] at f11
    have f12 : ∀ ws k new s, JP ws s [1] [List.map AV.p (J0 b1)] → Jm ((Jq (AF (J1 p)) Jc ([.ptr 1 0, .p (.i .i64 60)], ws) k new).reads s) = [1] ++ ([1] ++ [1]) := J2d (args' := [.ptr 0 0, .p (.i .i64 60)]) (bs := [1]) (css := [List.map AV.p (J0 b1)]) rfl rfl rfl (by simp [Jo, Jb])
    try simp only [Nf] at f12
    have f13 : spl (JO (r_i .i64) (Vector.replicate 2 0)) 0 [.i .i64 b3.ID] = some (JO (r_i .i64) (#v[b3.ID, 0] : Vector Int 2)) := rfl
    have f14 : spl (JO (r_i .i64) (#v[b3.ID, 0] : Vector Int 2)) 1 [.i .i64 r9.1] = some (JO (r_i .i64) (#v[b3.ID, r9.1] : Vector Int 2)) := rfl
    obtain ⟨r15, h16, h⟩ := bi h
    have f17 : ∀ ws new s, JP ws s [1] [List.map AV.p (J0 r9.2)] → (Jq (AF (J1 p)) Jc ([.ptr 1 0, .p (.i .i64 6)], ws) 0 new).run s = some ⟨.p (.i .i64 r15.1), ws ++ [(1, .box (List.map AV.p (J0 r15.2)))]⟩ := JG (args' := [.ptr 0 0, .p (.i .i64 6)]) (bs := [1]) (css := [List.map AV.p (J0 r9.2)]) (css' := [List.map AV.p (J0 r15.2)]) rfl rfl rfl (by simp [Jo, Jb]) (JC p h16) rfl rfl (by simp [Jo, Jb])
    try simp only [Nf] at f17
    have f18 : ∀ ws k new s, JP ws s [1] [List.map AV.p (J0 r9.2)] → Jm ((Jq (AF (J1 p)) Jc ([.ptr 1 0, .p (.i .i64 6)], ws) k new).reads s) = [1] ++ ([1] ++ [1]) := J2d (args' := [.ptr 0 0, .p (.i .i64 6)]) (bs := [1]) (css := [List.map AV.p (J0 r9.2)]) rfl rfl rfl (by simp [Jo, Jb])
    try simp only [Nf] at f18
    obtain ⟨r19, h20, h⟩ := bi h
    have f21 : ∀ ws new s, JP ws s [1] [List.map AV.p (J0 r15.2)] → (Jq (AF (J1 p)) Jc ([.ptr 1 0, .p (.i .i64 60)], ws) 0 new).run s = some ⟨.p (.i .i64 r19.1), ws ++ [(1, .box (List.map AV.p (J0 r19.2)))]⟩ := JG (args' := [.ptr 0 0, .p (.i .i64 60)]) (bs := [1]) (css := [List.map AV.p (J0 r15.2)]) (css' := [List.map AV.p (J0 r19.2)]) rfl rfl rfl (by simp [Jo, Jb]) (JC p h20) rfl rfl (by simp [Jo, Jb])
    try simp only [Nf] at f21
    have f22 : ∀ ws k new s, JP ws s [1] [List.map AV.p (J0 r15.2)] → Jm ((Jq (AF (J1 p)) Jc ([.ptr 1 0, .p (.i .i64 60)], ws) k new).reads s) = [1] ++ ([1] ++ [1]) := J2d (args' := [.ptr 0 0, .p (.i .i64 60)]) (bs := [1]) (css := [List.map AV.p (J0 r15.2)]) rfl rfl rfl (by simp [Jo, Jb])
    try simp only [Nf] at f22
    have f23 : spl (JO (r_i .i64) (Vector.replicate 2 0)) 0 [.i .i64 r15.1] = some (JO (r_i .i64) (#v[r15.1, 0] : Vector Int 2)) := rfl
    have f24 : spl (JO (r_i .i64) (#v[r15.1, 0] : Vector Int 2)) 1 [.i .i64 r19.1] = some (JO (r_i .i64) (#v[r15.1, r19.1] : Vector Int 2)) := rfl
    try simp only [↓Da, Ua, Ra, J08, J3, J2, J6, J4h, Jl, *, ↓reduceIte, Nat.reduceEqDiff, Nat.reduceAdd, Nat.reduceLT, Nat.reduceMul, Nat.reduceBEq]
    have e0 := JbN p (B0 := B0) (B2 := B2) h
    exact e0
  · obtain ⟨o', h', rfl⟩ := mi h
    try simp only [↓Da, Ua, Ra, J08, J3, J2, J6, J4h, Jl, *, ↓reduceIte, Nat.reduceEqDiff, Nat.reduceAdd, Nat.reduceLT, Nat.reduceMul, Nat.reduceBEq]
    have e0 := Jcq p (B0 := B0) (B2 := B2) h'
    exact e0
def J6j (x2 : Int) (x3 : Int) (x4 : List UInt8) (x14 : List UInt8) (x66 : List T_api_Index) (x67 : Int) (x68 : Int) (x78 : List (List UInt8)) (x79 : Int) (b3 : T_api_Page) (b4 : T_api_Index) (s : Int × T_pagemenddraw_Codes) : Option (((Int × T_pagemenddraw_Codes) ⊕ (Bool))) :=
  JK (fun s => J1s x2 x3 x4 x14 x66 x67 x68 x78 x79 b3 b4 s.1 s.2) s
theorem JbM {x2 : Int} {x3 : Int} {x4 : List UInt8} {x14 : List UInt8} {x66 : List T_api_Index} {x67 : Int} {x68 : Int} {x78 : List (List UInt8)} {x79 : Int} {b3 : T_api_Page} {b4 : T_api_Index} {B0 : List PV} {B2 : List PV} {s : Int × T_pagemenddraw_Codes} {o : ((Int × T_pagemenddraw_Codes) ⊕ (Bool))} (h : J6j x2 x3 x4 x14 x66 x67 x68 x78 x79 b3 b4 s = some o) :
    rk (J1 p) JH 0 [.bl 2, .bl 1, .td 4 [2, 3, 4, 10, 11, 13, 14, 66, 67, 68], .sq (.keep [2, 3, 4, 11, 13, 14, 66, 67, 68] J0e), .lo 4 [2, 3, 4, 11, 13, 14, 66, 67, 68] JM, .bl 0, .td 4 [10], .sq (.keep [] JQ)] (X (J1 p) (.lp 5 [2, 3, 4, 11, 13, 14, 17, 66, 67, 68, 78, 79, 80] J08) ⟨[(2, .p (.i .i64 x2)), (3, .p (.i .i64 x3)), (4, .p (.s x4)), (11, .ptr 1 0), (13, .ptr 3 0), (14, .p (.s x14)), (17, .ptr 4 0), (66, .p (.sl 1 (List.map Jj x66))), (67, .p (.i .i64 x67)), (68, .p (.i .i64 x68)), (78, .p (.sl 1 (List.map r_s x78))), (79, .p (.i .i64 x79)), (80, .p (.i .i64 s.1))], [.box (List.map AV.p B0), .box (List.map AV.p (J0 s.2)), .box (List.map AV.p B2), .box (List.map AV.p (J4 b3)), .box (List.map AV.p (Jj b4))]⟩) = (J2Z p x2 x3 x4 x14 x66 x67 b3 B0 B2) o := by
  have h0 : JK (fun s => J1s x2 x3 x4 x14 x66 x67 x68 x78 x79 b3 b4 s.1 s.2) s = some o := h
  exact J10 (P := fun (s : Int × T_pagemenddraw_Codes) (o : ((Int × T_pagemenddraw_Codes) ⊕ (Bool))) => rk (J1 p) JH 0 [.bl 2, .bl 1, .td 4 [2, 3, 4, 10, 11, 13, 14, 66, 67, 68], .sq (.keep [2, 3, 4, 11, 13, 14, 66, 67, 68] J0e), .lo 4 [2, 3, 4, 11, 13, 14, 66, 67, 68] JM, .bl 0, .td 4 [10], .sq (.keep [] JQ)] (X (J1 p) (.lp 5 [2, 3, 4, 11, 13, 14, 17, 66, 67, 68, 78, 79, 80] J08) ⟨[(2, .p (.i .i64 x2)), (3, .p (.i .i64 x3)), (4, .p (.s x4)), (11, .ptr 1 0), (13, .ptr 3 0), (14, .p (.s x14)), (17, .ptr 4 0), (66, .p (.sl 1 (List.map Jj x66))), (67, .p (.i .i64 x67)), (68, .p (.i .i64 x68)), (78, .p (.sl 1 (List.map r_s x78))), (79, .p (.i .i64 x79)), (80, .p (.i .i64 s.1))], [.box (List.map AV.p B0), .box (List.map AV.p (J0 s.2)), .box (List.map AV.p B2), .box (List.map AV.p (J4 b3)), .box (List.map AV.p (Jj b4))]⟩) = (J2Z p x2 x3 x4 x14 x66 x67 b3 B0 B2) o) (fun s r hs => by rw [J0Z]; exact J9k p hs) (fun s s1 r hs ih => by rw [J0Z]; exact (J9k p hs).trans ih) h0
def J4p  : Option (Bool) :=
  some true
theorem Jcy {B0 : List PV} {B1 : List PV} {B2 : List PV} {B3 : List PV} {o : Bool} (h : J4p = some o) :
    rk (J1 p) JH 0 [] (X (J1 p) JQ ⟨[], [.box (List.map AV.p B0), .box (List.map AV.p B1), .box (List.map AV.p B2), .box (List.map AV.p B3)]⟩) = J2u o := by
  unfold J4p at h
  obtain rfl := sj h
  try simp only [↓Da, Ua, JQ, J1M, ↓reduceIte, Nat.reduceEqDiff, Nat.reduceAdd, Nat.reduceLT, Nat.reduceMul]
  rfl
def J1q (x2 : Int) (x3 : Int) (x4 : List UInt8) (x14 : List UInt8) (x66 : List T_api_Index) (x67 : Int) (b3 : T_api_Page) (x68 : Int) (b1 : T_pagemenddraw_Codes) : Option (((Int × T_pagemenddraw_Codes) ⊕ (Bool))) :=
  if (decide (x68 < x67)) then
    Option.bind (idx x66 x68) fun y2 =>
    Option.bind (J3I b1 x14) fun r5 =>
    Option.bind (J4X) fun r8 =>
    J6j x2 x3 x4 x14 x66 x67 x68 ([x4, x14, r5.1, r8] : List (List UInt8)) ((List.length ([x4, x14, r5.1, r8] : List (List UInt8)) : Nat) : Int) b3 y2 (0, r5.2)
  else
    Option.map (fun o => .inr o) (J4p)
theorem J9o {x2 : Int} {x3 : Int} {x4 : List UInt8} {x14 : List UInt8} {x66 : List T_api_Index} {x67 : Int} {b3 : T_api_Page} {x68 : Int} {b1 : T_pagemenddraw_Codes} {B0 : List PV} {B2 : List PV} {o : ((Int × T_pagemenddraw_Codes) ⊕ (Bool))} (h : J1q x2 x3 x4 x14 x66 x67 b3 x68 b1 = some o) :
    rk (J1 p) JH 0 [.lo 4 [2, 3, 4, 11, 13, 14, 66, 67, 68] JM, .bl 0, .td 4 [10], .sq (.keep [] JQ)] (X (J1 p) JM ⟨[(2, .p (.i .i64 x2)), (3, .p (.i .i64 x3)), (4, .p (.s x4)), (11, .ptr 1 0), (13, .ptr 3 0), (14, .p (.s x14)), (66, .p (.sl 1 (List.map Jj x66))), (67, .p (.i .i64 x67)), (68, .p (.i .i64 x68))], [.box (List.map AV.p B0), .box (List.map AV.p (J0 b1)), .box (List.map AV.p B2), .box (List.map AV.p (J4 b3))]⟩) = (J2Z p x2 x3 x4 x14 x66 x67 b3 B0 B2) o := by
  unfold J1q at h
  rcases J9 h with ⟨h1, h⟩ | ⟨h1, h⟩
  · obtain ⟨y2, h3, h⟩ := bi h
    have f4 := J5J (r := Jj) h3
    try simp only [Nf, J5] at f4
    obtain ⟨r5, h6, h⟩ := bi h
    have f7 : ∀ ws new s, JP ws s [1] [List.map AV.p (J0 b1)] → (Jq (AF (J1 p)) J3N ([.ptr 1 0, .p (.s x14)], ws) 0 new).run s = some ⟨.p (.s r5.1), ws ++ [(1, .box (List.map AV.p (J0 r5.2)))]⟩ := JG (args' := [.ptr 0 0, .p (.s x14)]) (bs := [1]) (css := [List.map AV.p (J0 b1)]) (css' := [List.map AV.p (J0 r5.2)]) rfl rfl rfl (by simp [Jo, Jb]) (Jg3 p h6) rfl rfl (by simp [Jo, Jb])
    try simp only [Nf, J5] at f7
    obtain ⟨r8, h9, h⟩ := bi h
    have f10 := JfG p h9
    try simp only [Nf, J5] at f10
    try simp only [↓Da, Ua, JM, J5, Jl, Jk, *, ↓reduceIte, Nat.reduceEqDiff, Nat.reduceAdd, Nat.reduceLT, Nat.reduceMul]
    have e0 := JbM p (B0 := B0) (B2 := B2) h
    exact e0
  · obtain ⟨o', h', rfl⟩ := mi h
    try simp only [↓Da, Ua, JM, J5, Jl, Jk, *, ↓reduceIte, Nat.reduceEqDiff, Nat.reduceAdd, Nat.reduceLT, Nat.reduceMul]
    have e0 := Jcy p (B0 := B0) (B1 := (J0 b1)) (B2 := B2) (B3 := (J4 b3)) h'
    exact e0
def J4q (x2 : Int) (x3 : Int) (x4 : List UInt8) (x14 : List UInt8) (x66 : List T_api_Index) (x67 : Int) (b3 : T_api_Page) (s : Int × T_pagemenddraw_Codes) : Option (Bool) :=
  JK (fun s => J1q x2 x3 x4 x14 x66 x67 b3 s.1 s.2) s
theorem JbL {x2 : Int} {x3 : Int} {x4 : List UInt8} {x14 : List UInt8} {x66 : List T_api_Index} {x67 : Int} {b3 : T_api_Page} {B0 : List PV} {B2 : List PV} {s : Int × T_pagemenddraw_Codes} {o : Bool} (h : J4q x2 x3 x4 x14 x66 x67 b3 s = some o) :
    rk (J1 p) JH 0 [.bl 0, .td 4 [10], .sq (.keep [] JQ)] (X (J1 p) (.lp 4 [2, 3, 4, 11, 13, 14, 66, 67, 68] JM) ⟨[(2, .p (.i .i64 x2)), (3, .p (.i .i64 x3)), (4, .p (.s x4)), (11, .ptr 1 0), (13, .ptr 3 0), (14, .p (.s x14)), (66, .p (.sl 1 (List.map Jj x66))), (67, .p (.i .i64 x67)), (68, .p (.i .i64 s.1))], [.box (List.map AV.p B0), .box (List.map AV.p (J0 s.2)), .box (List.map AV.p B2), .box (List.map AV.p (J4 b3))]⟩) = J2u o := by
  have h0 : JK (fun s => J1q x2 x3 x4 x14 x66 x67 b3 s.1 s.2) s = some o := h
  exact J10 (P := fun (s : Int × T_pagemenddraw_Codes) (o : Bool) => rk (J1 p) JH 0 [.bl 0, .td 4 [10], .sq (.keep [] JQ)] (X (J1 p) (.lp 4 [2, 3, 4, 11, 13, 14, 66, 67, 68] JM) ⟨[(2, .p (.i .i64 x2)), (3, .p (.i .i64 x3)), (4, .p (.s x4)), (11, .ptr 1 0), (13, .ptr 3 0), (14, .p (.s x14)), (66, .p (.sl 1 (List.map Jj x66))), (67, .p (.i .i64 x67)), (68, .p (.i .i64 s.1))], [.box (List.map AV.p B0), .box (List.map AV.p (J0 s.2)), .box (List.map AV.p B2), .box (List.map AV.p (J4 b3))]⟩) = J2u o) (fun s r hs => by rw [J0Z]; exact J9o p hs) (fun s s1 r hs ih => by rw [J0Z]; exact (J9o p hs).trans ih) h0
def J3r (x0 : List Int) (x1 : T_api_Index) (x2 : Int) (x3 : Int) (x4 : List UInt8) : Option (Bool) :=
  Option.bind (J5Y) fun r1 =>
  if r1 then
    if (decide (((List.length x1.Rows : Nat) : Int) > 100)) then
      some true
    else
      if (decide (((List.length x4 : Nat) : Int) > 600)) then
        some true
      else
        Option.bind (J6i x0 200) fun r7 =>
        Option.bind (J51 r7) fun r10 =>
        Option.bind (Jv r10.2 5) fun r13 =>
        Option.bind (J2Q r13.2 r13.1) fun r16 =>
        Option.bind (J2P r16.1) fun r19 =>
        Option.bind (J7V r16.2 r10.1) fun r22 =>
        J4q x2 x3 x4 r19.1 ([x1, r10.1, r22.1] : List T_api_Index) ((List.length ([x1, r10.1, r22.1] : List T_api_Index) : Nat) : Int) r16.1 (0, r22.2)
  else
    if (decide (((List.length x1.Rows : Nat) : Int) > 100)) then
      some true
    else
      some (decide (((List.length x4 : Nat) : Int) > 600))
theorem JbR {x0 : List Int} {x1 : T_api_Index} {x2 : Int} {x3 : Int} {x4 : List UInt8} {o : Bool} (h : J3r x0 x1 x2 x3 x4 = some o) :
    rk (J1 p) JH 0 [] (X (J1 p) J0h ⟨[(0, .p (.sl 1 (List.map (r_i .u8) x0))), (1, .data (Jj x1)), (2, .p (.i .i64 x2)), (3, .p (.i .i64 x3)), (4, .p (.s x4))], []⟩) = J2u o := by
  unfold J3r at h
  obtain ⟨r1, h2, h⟩ := bi h
  have f3 := Jn1 p h2
  try simp only [Nf, J5] at f3
  try simp only [↓Da, Ua, Ra, J0h, J5, J3, J2, J6, Jl, Jk, *, ↓reduceIte, Nat.reduceEqDiff, Nat.reduceAdd, Nat.reduceLT, Nat.reduceMul, Nat.reduceBEq]
  rcases J9 h with ⟨h4, h⟩ | ⟨h4, h⟩
  · try simp only [↓Da, Ua, Ra, J0h, J5, J3, J2, J6, Jl, Jk, *, ↓reduceIte, Nat.reduceEqDiff, Nat.reduceAdd, Nat.reduceLT, Nat.reduceMul, Nat.reduceBEq]
    rcases J9 h with ⟨h5, h⟩ | ⟨h5, h⟩
    · obtain rfl := sj h
      try simp only [↓Da, Ua, Ra, J0h, J5, J3, J2, J6, Jl, Jk, J1M, *, ↓reduceIte, Nat.reduceEqDiff, Nat.reduceAdd, Nat.reduceLT, Nat.reduceMul, Nat.reduceBEq]
      rfl
    · try simp only [↓Da, Ua, Ra, J0h, J5, J3, J2, J6, Jl, Jk, *, ↓reduceIte, Nat.reduceEqDiff, Nat.reduceAdd, Nat.reduceLT, Nat.reduceMul, Nat.reduceBEq]
      rcases J9 h with ⟨h6, h⟩ | ⟨h6, h⟩
      · obtain rfl := sj h
        try simp only [↓Da, Ua, Ra, J0h, J5, J3, J2, J6, Jl, Jk, J1M, *, ↓reduceIte, Nat.reduceEqDiff, Nat.reduceAdd, Nat.reduceLT, Nat.reduceMul, Nat.reduceBEq]
        rfl
      · obtain ⟨r7, h8, h⟩ := bi h
        have f9 : ∀ ws new s, (Jq (AF (J1 p)) J9Y ([.p (.sl 1 (List.map (r_i .u8) x0)), .p (.i .i64 200)], ws) 1 new).run s = some ⟨.ptr new 0, ws ++ [(new, .box (List.map AV.p (J0 r7)))]⟩ := JqD rfl (Jrc p h8) (Jb _)
        try simp only [Nf, J5] at f9
        obtain ⟨r10, h11, h⟩ := bi h
        have f12 : ∀ ws new s, JP ws s [1] [List.map AV.p (J0 r7)] → (Jq (AF (J1 p)) J71 ([.ptr 1 0], ws) 0 new).run s = some ⟨.data (Jj r10.1), ws ++ [(1, .box (List.map AV.p (J0 r10.2)))]⟩ := JG (args' := [.ptr 0 0]) (bs := [1]) (css := [List.map AV.p (J0 r7)]) (css' := [List.map AV.p (J0 r10.2)]) rfl rfl rfl (by simp [Jo, Jb]) (Jn4 p h11) rfl rfl (by simp [Jo, Jb])
        try simp only [Nf, J5] at f12
        obtain ⟨r13, h14, h⟩ := bi h
        have f15 : ∀ ws new s, JP ws s [1] [List.map AV.p (J0 r10.2)] → (Jq (AF (J1 p)) Jc ([.ptr 1 0, .p (.i .i64 5)], ws) 0 new).run s = some ⟨.p (.i .i64 r13.1), ws ++ [(1, .box (List.map AV.p (J0 r13.2)))]⟩ := JG (args' := [.ptr 0 0, .p (.i .i64 5)]) (bs := [1]) (css := [List.map AV.p (J0 r10.2)]) (css' := [List.map AV.p (J0 r13.2)]) rfl rfl rfl (by simp [Jo, Jb]) (JC p h14) rfl rfl (by simp [Jo, Jb])
        try simp only [Nf, J5] at f15
        obtain ⟨r16, h17, h⟩ := bi h
        have f18 : ∀ ws new s, JP ws s [1] [List.map AV.p (J0 r13.2)] → (Jq (AF (J1 p)) J4J ([.ptr 1 0, .p (.i .i64 r13.1)], ws) 0 new).run s = some ⟨.data (J4 r16.1), ws ++ [(1, .box (List.map AV.p (J0 r16.2)))]⟩ := JG (args' := [.ptr 0 0, .p (.i .i64 r13.1)]) (bs := [1]) (css := [List.map AV.p (J0 r13.2)]) (css' := [List.map AV.p (J0 r16.2)]) rfl rfl rfl (by simp [Jo, Jb]) (Ji1 p h17) rfl rfl (by simp [Jo, Jb])
        try simp only [Nf, J5] at f18
        obtain ⟨r19, h20, h⟩ := bi h
        have f21 := Jeo p h20
        try simp only [Nf, J5] at f21
        obtain ⟨r22, h23, h⟩ := bi h
        have f24 : ∀ ws new s, JP ws s [1] [List.map AV.p (J0 r16.2)] → (Jq (AF (J1 p)) J7T ([.ptr 1 0, .data (Jj r10.1)], ws) 0 new).run s = some ⟨.data (Jj r22.1), ws ++ [(1, .box (List.map AV.p (J0 r22.2)))]⟩ := JG (args' := [.ptr 0 0, .data (Jj r10.1)]) (bs := [1]) (css := [List.map AV.p (J0 r16.2)]) (css' := [List.map AV.p (J0 r22.2)]) rfl rfl rfl (by simp [Jo, Jb]) (Jpg p h23) rfl rfl (by simp [Jo, Jb])
        try simp only [Nf, J5] at f24
        have f25 : ∀ ws k new s, JP ws s [1] [List.map AV.p (J0 r16.2)] → Jm ((Jq (AF (J1 p)) J7T ([.ptr 1 0, .data (Jj r10.1)], ws) k new).reads s) = [1] ++ ([1] ++ [1]) := J2d (args' := [.ptr 0 0, .data (Jj r10.1)]) (bs := [1]) (css := [List.map AV.p (J0 r16.2)]) rfl rfl rfl (by simp [Jo, Jb])
        try simp only [Nf, J5] at f25
        try simp only [↓Da, Ua, Ra, J0h, J5, J3, J2, J6, Jl, Jk, *, ↓reduceIte, Nat.reduceEqDiff, Nat.reduceAdd, Nat.reduceLT, Nat.reduceMul, Nat.reduceBEq]
        have e0 := JbL p (B0 := (Jj x1)) (B2 := (Jj r10.1)) h
        exact e0
  · try simp only [↓Da, Ua, Ra, J0h, J5, J3, J2, J6, Jl, Jk, *, ↓reduceIte, Nat.reduceEqDiff, Nat.reduceAdd, Nat.reduceLT, Nat.reduceMul, Nat.reduceBEq]
    rcases J9 h with ⟨h26, h⟩ | ⟨h26, h⟩
    · obtain rfl := sj h
      try simp only [↓Da, Ua, Ra, J0h, J5, J3, J2, J6, Jl, Jk, J1M, *, ↓reduceIte, Nat.reduceEqDiff, Nat.reduceAdd, Nat.reduceLT, Nat.reduceMul, Nat.reduceBEq]
      rfl
    · obtain rfl := sj h
      try simp only [↓Da, Ua, Ra, J0h, J5, J3, J2, J6, Jl, Jk, J1M, *, ↓reduceIte, Nat.reduceEqDiff, Nat.reduceAdd, Nat.reduceLT, Nat.reduceMul, Nat.reduceBEq]
      rfl
theorem Jdi {x0 : List Int} {x1 : T_api_Index} {x2 : Int} {x3 : Int} {x4 : List UInt8} {o : Bool} (h : J3r x0 x1 x2 x3 x4 = some o) : AF (J1 p) J5a [.p (.sl 1 (List.map (r_i .u8) x0)), .data (Jj x1), .p (.i .i64 x2), .p (.i .i64 x3), .p (.s x4)] [] = J2u o :=
  (J0j (J1 p) (Jdg p) rfl).trans (JbR p h)
end
end Go.Am
end
section
end
section
namespace Go.Am
theorem J0r {n : Int} (h1 : -9223372036854775808 ≤ n) (h2 : n ≤ 9223372036854775807) : IntKind.i64.wrap n = n := by
  simp [IntKind.wrap_i64]; omega
theorem JaL {n : Int} (h1 : 0 ≤ n) (h2 : n < 18446744073709551616) : IntKind.u64.wrap n = n := by
  rw [show IntKind.u64.wrap n = n % 18446744073709551616 by simp [IntKind.wrap, IntKind.bits, IntKind.signed]]; omega
theorem Jea {α : Type} (l : List α) (k : Nat) : idx l (k : Int) = l[k]? := by simp [idx]
theorem J49 {α : Type} {n : Nat} (v : Vector α n) (k : Nat) (h : k < n) : J6Z v (k : Int) = some v[k] := by
  have e : (0 : Int) ≤ k ∧ (k : Int) < n := by omega
  simp [J6Z, e, h]
theorem J9R {n k : Nat} (h : k < n) : inb n (k : Int) = some () := by
  have e : (0 : Int) ≤ k ∧ (k : Int) < n := by omega
  simp [inb, e]
theorem J1G {k : Nat} (h : k < 1000000) : IntKind.i64.wrap ((k : Int) + 1) = ((k + 1 : Nat) : Int) := by
  rw [J0r (by omega) (by omega)]; simp
theorem J1z {σ ρ : Type} {f : σ → Option (σ ⊕ ρ)} (I : σ → Prop) (m : σ → Nat) (Q : ρ → Prop)
    (h : ∀ s, I s → (∃ s', f s = some (.inl s') ∧ I s' ∧ m s' < m s) ∨ (∃ r, f s = some (.inr r) ∧ Q r)) : ∀ s, I s → ∃ r, JK f s = some r ∧ Q r := by
  have key : ∀ n s, m s ≤ n → I s → ∃ r, JK f s = some r ∧ Q r := by
    intro n
    induction n with
    | zero =>
      intro s hm hs
      rcases h s hs with ⟨s', e, hs', hlt⟩ | ⟨r, e, hq⟩
      · omega
      · exact ⟨r, J33 e, hq⟩
    | succ n ih =>
      intro s hm hs
      rcases h s hs with ⟨s', e, hs', hlt⟩ | ⟨r, e, hq⟩
      · obtain ⟨r, hr, hq⟩ := ih s' (by omega) hs'
        exact ⟨r, (J41 e).trans hr, hq⟩
      · exact ⟨r, J33 e, hq⟩
  exact fun s hs => key (m s) s (Nat.le_refl _) hs
structure J0m (b : T_pagemenddraw_Codes) : Prop where
  at0 : 0 ≤ b.at_
  at1 : b.at_ ≤ b.l_.length
  len : b.l_.length ≤ 1000
  byte : ∀ x ∈ b.l_, 0 ≤ x ∧ x ≤ 255
theorem JkI {b : T_pagemenddraw_Codes} (hb : J0m b) {n : Int} (h1 : 1 ≤ n) (h2 : n ≤ 256) (m : Nat) : ∃ r b', J0X (m + 1) b n = some (r, b') ∧ J0m b' ∧ 0 ≤ r ∧ r < n := by
  obtain ⟨ha, hb1, hl, hx⟩ := hb
  simp only [J0X, J2T]
  by_cases hc : b.at_ ≥ (b.l_.length : Int)
  · exact ⟨0, b, by simp [hc], ⟨ha, hb1, hl, hx⟩, by omega, by omega⟩
  · obtain ⟨k, hk⟩ : ∃ k : Nat, b.at_ = (k : Int) := ⟨b.at_.toNat, by omega⟩
    have hk2 : k < b.l_.length := by omega
    have hy := hx _ (List.getElem_mem hk2)
    have e1 : ¬ n < 1 := by omega
    have e2 : ¬ n > 256 := by omega
    have e3 : idx b.l_ b.at_ = some b.l_[k] := by rw [hk, Jea, List.getElem?_eq_getElem hk2]
    have e4 : ¬ n = 0 := by omega
    refine ⟨(b.l_[k]).tmod n, ⟨b.l_, b.at_ + 1⟩, ?_, ⟨by show 0 ≤ b.at_ + 1; omega, by show b.at_ + 1 ≤ (b.l_.length : Int); omega, hl, hx⟩, Int.tmod_nonneg _ hy.1, Int.tmod_lt_of_pos _ (by omega)⟩
    simp only [hc, decide_false, e1, e2, e3, Option.bind_some, Jlg, e4, if_false, Bool.false_eq_true]
    rw [J0r (by omega) (by omega), J0r (by omega) (by omega)]
theorem J2N {b : T_pagemenddraw_Codes} (hb : J0m b) {n : Int} (h1 : 1 ≤ n) (h2 : n ≤ 256) : ∃ r b', Jv b n = some (r, b') ∧ J0m b' ∧ 0 ≤ r ∧ r < n := JkI hb h1 h2 11
theorem Jwf {l : List Int} (h : ∀ x ∈ l, 0 ≤ x ∧ x ≤ 255) {n : Nat} (hn : n ≤ 1000) : ∃ b, J6i l (n : Int) = some b ∧ J0m b := by
  unfold J6i J9E
  by_cases hc : (l.length : Int) > n
  · have : J34 l none (some (n : Int)) = some (l.take n) := by
      have e1 : (0 : Int) ≤ n ∧ n ≤ l.length := by omega
      have e2 : n ≤ l.length := by omega
      simp [J34, Jgw, JdR, e2]
    refine ⟨⟨l.take n, 0⟩, by simp [hc, this], ⟨by show (0 : Int) ≤ 0; omega, by show (0 : Int) ≤ _; omega, by simp; omega, fun x hx => h x (List.mem_of_mem_take hx)⟩⟩
  · exact ⟨⟨l, 0⟩, by simp [hc], ⟨by show (0 : Int) ≤ 0; omega, by show (0 : Int) ≤ _; omega, by show l.length ≤ 1000; omega, h⟩⟩
theorem Jq1 {b : T_pagemenddraw_Codes} (hb : J0m b) {n : Int} (h0 : 0 ≤ n) (h1 : n ≤ 20) : ∃ s b', J3H n b = some (s, b') ∧ J0m b' := by
  have e0 : mkS 1 0 n (0 : Int) = some [] := by
    have : (0 : Int) ≤ n ∧ 1 * n ≤ 281474976710656 ∧ n ≤ 281474976710656 := by omega
    simp [mkS]; omega
  unfold J3H
  simp only [e0, Option.bind_some]
  obtain ⟨r, hr, hq⟩ := J1z (f := fun s : Int × T_pagemenddraw_Codes × List Int => J2Y n s.1 s.2.1 s.2.2)
    (fun s => ∃ k : Nat, s.1 = k ∧ (k : Int) ≤ n ∧ J0m s.2.1 ∧ s.2.2.length = k) (fun s => (n - s.1).toNat) (fun r => J0m r.2)
    (fun s ⟨k, hk, hn, hc, hl⟩ => by
      obtain ⟨i, b, l⟩ := s
      simp only at hk hc hl
      subst hk
      by_cases hlt : (k : Int) < n
      · left
        obtain ⟨r, b', e1, hb', _, _⟩ := J2N hc (n := 3) (by omega) (by omega)
        have e2 : J6Y (l.length + 1) 1 = true := by simp [J6Y]; omega
        have e3 : ∀ z : Int, Jlo 1 l [z] = some (l ++ [z]) := fun z => by simp only [Jlo, List.length_cons, List.length_nil, Nat.zero_add, e2, if_true]
        refine ⟨⟨((k + 1 : Nat) : Int), b', l ++ [IntKind.wrap .u8 (IntKind.wrap .i64 (97 + r))]⟩, ?_, ⟨k + 1, rfl, by simp; omega, hb', by simp [hl]⟩, by simp; omega⟩
        simp only [J2Y, hlt, decide_true, if_true, e1, e3, Option.bind_some, J1G (show k < 1000000 by omega)]
      · right
        refine ⟨(toStr l, b), ?_, hc⟩
        simp [J2Y, J6W, hlt])
    (0, b, []) ⟨0, rfl, by simpa using h0, hb, rfl⟩
  exact ⟨r.1, r.2, hr, hq⟩
def Jq6 (c : J8) : Prop := c.Data.length ≤ 12 ∧ (c.Set = false → c.Data = [])
theorem Jre {b : T_pagemenddraw_Codes} (hb : J0m b) : ∃ c b', J4K b = some (c, b') ∧ J0m b' ∧ Jq6 c := by
  obtain ⟨r, b1, e1, hb1, _, _⟩ := J2N hb (n := 3) (by omega) (by omega)
  unfold J4K
  simp only [e1, Option.bind_some]
  by_cases h0 : r = 0
  · exact ⟨⟨false, []⟩, b1, by simp [h0], hb1, by simp [Jq6]⟩
  · have hd : ∃ s b', J4R b1 = some (s, b') ∧ J0m b' := by
      unfold J4R
      obtain ⟨r1, b2, e2, hb2, h21, h22⟩ := J2N hb1 (n := 5) (by omega) (by omega)
      obtain ⟨r2, b3, e3, hb3, _, _⟩ := J2N hb2 (n := 6) (by omega) (by omega)
      simp only [e2, e3, Option.bind_some]
      by_cases h6 : r2 = 0
      · obtain ⟨r3, b4, e4, hb4, h41, h42⟩ := J2N hb3 (n := 14) (by omega) (by omega)
        obtain ⟨s, b5, e5, hb5⟩ := Jq1 hb4 h41 (by omega)
        exact ⟨s, b5, by simp [h6, e4, e5], hb5⟩
      · obtain ⟨s, b5, e5, hb5⟩ := Jq1 hb3 h21 (by omega)
        exact ⟨s, b5, by simp [h6, e5], hb5⟩
    obtain ⟨s, b2, e2, hb2⟩ := hd
    have e3 : J34 s none (some (Jjh (s.length : Int) 12)) = some (s.take (min s.length 12)) := by
      have e4 : Jjh (s.length : Int) 12 = ((min s.length 12 : Nat) : Int) := by unfold Jjh; split <;> omega
      have e5 : min s.length 12 ≤ s.length := by omega
      rw [e4]
      simp only [J34, Jgw, JdR]
      have e6 : (0 : Int) ≤ ((min s.length 12 : Nat) : Int) ∧ ((min s.length 12 : Nat) : Int) ≤ ((s.length : Nat) : Int) := by omega
      simp only [e6, and_self, if_true, Int.toNat_natCast, List.drop_zero, Nat.sub_zero]
    refine ⟨⟨true, s.take (min s.length 12)⟩, b2, ?_, hb2, ?_⟩
    · simp only [e2, Option.bind_some, e3]
      simp [h0]
    · refine ⟨?_, fun h => by cases h⟩
      simp only [List.length_take]; omega
def J6g (lsn : Int) (c : J8) : Prop := c.Data.length ≤ 12 ∧ (c.Set = false → c.Data = []) ∧ (c.Set = true → lsn ≠ 0)
structure J7G (p : T_api_Page) : Prop where
  id0 : 0 ≤ p.ID
  id1 : p.ID < 64
  lsn0 : 0 ≤ p.LSN
  lsn1 : p.LSN ≤ 1099511627776
  cells : ∀ (i : Nat) (h : i < 16), J6g p.LSN (p.Cells[i])
theorem JoG {id lsn : Int} (h0 : 0 ≤ id) (h1 : id < 64) (h2 : 0 ≤ lsn) (h3 : lsn ≤ 1099511627776) : J7G ⟨id, lsn, Vector.replicate 16 ⟨false, []⟩⟩ :=
  ⟨h0, h1, h2, h3, fun i h => by simp [J6g]⟩
theorem Jrx {b : T_pagemenddraw_Codes} (hb : J0m b) {id : Int} (h0 : 0 ≤ id) (h1 : id < 64) : ∃ p b', J2Q b id = some (p, b') ∧ J0m b' ∧ J7G p ∧ p.ID = id := by
  have go : ∀ (b : T_pagemenddraw_Codes) (lsn : Int) (b1 : T_api_Page), J0m b → 0 ≤ lsn → lsn ≤ 1099511627776 →
      ∃ p b', J3K b b1 ⟨id, lsn, Vector.replicate 16 ⟨false, []⟩⟩ = some (p, b') ∧ J0m b' ∧ J7G p ∧ p.ID = id := by
    intro b lsn b1 hb hl0 hl1
    unfold J3K
    by_cases hl : lsn > 0
    · obtain ⟨r, b2, e1, hb2, hr0, hr1⟩ := J2N hb (n := 6) (by omega) (by omega)
      obtain ⟨o, ho, hq⟩ := J1z (f := fun s : Int × T_pagemenddraw_Codes × T_api_Page => J2V b1 s.1 s.2.1 s.2.2)
        (fun s => 0 ≤ s.1 ∧ s.1 ≤ 6 ∧ J0m s.2.1 ∧ J7G s.2.2 ∧ s.2.2.ID = id ∧ s.2.2.LSN = lsn) (fun s => s.1.toNat) (fun r => J0m r.2 ∧ J7G r.1 ∧ r.1.ID = id)
        (fun s ⟨i0, i1, hc, hp, hid, hlsn⟩ => by
          obtain ⟨i, b, p⟩ := s
          simp only at i0 i1 hc hp hid hlsn
          by_cases hi : i > 0
          · left
            obtain ⟨r, b2, e1, hb2, hr0, hr1⟩ := J2N hc (n := 16) (by omega) (by omega)
            obtain ⟨c, b3, e2, hb3, hcf⟩ := Jre hb2
            obtain ⟨k, rfl⟩ : ∃ k : Nat, r = (k : Int) := ⟨r.toNat, by omega⟩
            have hk : k < 16 := by omega
            refine ⟨⟨i - 1, b3, ⟨p.ID, p.LSN, JaE p.Cells (k : Int) c⟩⟩, ?_, ⟨by show 0 ≤ i - 1; omega, by show i - 1 ≤ 6; omega, hb3, ?_, hid, hlsn⟩, by show (i - 1).toNat < i.toNat; omega⟩
            · simp only [J2V, hi, decide_true, if_true, e1, e2, Option.bind_some, J9R hk, J49 _ k hk, J0r (show -9223372036854775808 ≤ i - 1 by omega) (by omega)]
            · refine ⟨hp.id0, hp.id1, hp.lsn0, hp.lsn1, fun j hj => ?_⟩
              show J6g p.LSN ((JaE p.Cells (k : Int) c)[j])
              simp only [JaE, Int.toNat_natCast, Vector.getElem_setIfInBounds]
              split
              · exact ⟨hcf.1, hcf.2, fun _ => by rw [hlsn]; omega⟩
              · exact hp.cells j hj
          · right
            exact ⟨(p, b), by simp [J2V, J3L, hi], hc, hp, hid⟩)
        (r, b2, ⟨id, lsn, Vector.replicate 16 ⟨false, []⟩⟩) ⟨hr0, by show r ≤ 6; omega, hb2, JoG h0 h1 hl0 hl1, rfl, rfl⟩
      refine ⟨o.1, o.2, ?_, hq.1, hq.2⟩
      simp only [hl, decide_true, if_true, e1, Option.bind_some]
      exact ho
    · exact ⟨_, b, by simp [hl, J3L], hb, JoG h0 h1 hl0 hl1, rfl⟩
  obtain ⟨r, b1, e1, hb1, hr0, hr1⟩ := J2N hb (n := 50) (by omega) (by omega)
  obtain ⟨r2, b2, e2, hb2, _, _⟩ := J2N hb1 (n := 10) (by omega) (by omega)
  unfold J2Q
  simp only [e1, e2, Option.bind_some]
  by_cases h9 : r2 = 9
  · obtain ⟨r3, b3, e3, hb3, h30, h31⟩ := J2N hb2 (n := 2) (by omega) (by omega)
    have e4 : IntKind.wrap .i64 (1099511627776 - r3) = 1099511627776 - r3 := J0r (by omega) (by omega)
    simp only [h9, e3, Option.bind_some, e4]
    exact go b3 _ _ hb3 (by omega) (by omega)
  · have e5 : ((r2 : Int) == 9) = false := by simpa using h9
    simp only [e5, Bool.false_eq_true, if_false]
    exact go b2 _ _ hb2 (by omega) (by omega)
end Go.Am
end
section
namespace Go.Am
theorem JwY (x : Int) : ∃ k : Nat, J5z .u32 x 15 = (k : Int) ∧ k < 16 := by
  have h : (BitVec.ofInt 32 x &&& BitVec.ofInt 32 15).toNat ≤ 15 := by
    rw [BitVec.toNat_and]
    exact Nat.and_le_right
  refine ⟨(BitVec.ofInt 32 x &&& BitVec.ofInt 32 15).toNat, ?_, by omega⟩
  show (((BitVec.ofInt 32 x &&& BitVec.ofInt 32 15).toNat : Nat) : Int) % 4294967296 = _
  omega
theorem Jni : ∃ v, J35 = some v := by
  have inner : ∀ (k : Nat) (b0 b1 : Vector Int 16), k < 16 → ∀ r : Int, ∃ o, J8q k k b0 b1 (r, 0) = some o ∧ ∃ v, o = .inl (((k + 1 : Nat) : Int), v) := by
    intro k b0 b1 hk r
    refine J1z (f := fun s : Int × Int => J0N k k b0 b1 s.1 s.2) (fun s => ∃ j : Nat, s.2 = j ∧ j ≤ 4) (fun s => (4 - s.2).toNat) _ (fun s ⟨j, hj, h4⟩ => ?_) (r, 0) ⟨0, rfl, by omega⟩
    obtain ⟨x, j'⟩ := s
    simp only at hj
    subst hj
    by_cases hlt : j < 4
    · left
      have e1 : ((j : Nat) : Int) < 4 := by omega
      have e2 : Jaz .u32 x 1 = some (x.fdiv (2 ^ (min (1 : Int).toNat IntKind.u32.bits))) := rfl
      by_cases hb : J5z .u32 x 1 = 1
      · exact ⟨⟨_, ((j + 1 : Nat) : Int)⟩, by simp only [J0N, e1, decide_true, if_true, hb, beq_self_eq_true, e2, Option.bind_some, J1G (show j < 1000000 by omega)]; rfl, ⟨j + 1, rfl, by omega⟩, by simp; omega⟩
      · have e3 : (J5z .u32 x 1 == 1) = false := by simpa using hb
        exact ⟨⟨_, ((j + 1 : Nat) : Int)⟩, by simp only [J0N, e1, decide_true, if_true, e3, Bool.false_eq_true, if_false, e2, Option.bind_some, J1G (show j < 1000000 by omega)]; rfl, ⟨j + 1, rfl, by omega⟩, by simp; omega⟩
    · right
      have e1 : ¬ ((j : Nat) : Int) < 4 := by omega
      exact ⟨.inl (((k + 1 : Nat) : Int), JaE b1 k x), by simp only [J0N, e1, decide_false, Bool.false_eq_true, if_false, J4z, J4B, J9R hk, J49 _ k hk, Option.bind_some, Option.map_some, J1G (show k < 1000000 by omega)], _, rfl⟩
  obtain ⟨v, hv, _⟩ := J1z (f := fun s : Int × Vector Int 16 => J1b (Vector.replicate 16 0) s.1 s.2) (fun s => ∃ j : Nat, s.1 = j ∧ j ≤ 16) (fun s => (16 - s.1).toNat) (fun _ => True) (fun s ⟨j, hj, h4⟩ => by
    obtain ⟨j', b1⟩ := s
    simp only at hj
    subst hj
    by_cases hlt : j < 16
    · left
      have e1 : ((j : Nat) : Int) < 16 := by omega
      obtain ⟨o, ho, v, rfl⟩ := inner j (Vector.replicate 16 0) b1 hlt (IntKind.wrap .u32 (j : Int))
      exact ⟨⟨((j + 1 : Nat) : Int), v⟩, by simp only [J1b, e1, decide_true, if_true]; exact ho, ⟨j + 1, rfl, by omega⟩, by simp; omega⟩
    · right
      have e1 : ¬ ((j : Nat) : Int) < 16 := by omega
      exact ⟨b1, by simp only [J1b, e1, decide_false, Bool.false_eq_true, if_false, J4A, Option.map_some], trivial⟩) (0, Vector.replicate 16 0) ⟨0, rfl, by omega⟩
  exact ⟨v, hv⟩
theorem J95 {l : List UInt8} {k : Nat} (h : k < l.length) : Jd6 l (k : Int) = some ((l[k]).toNat : Int) := by
  have e : (0 : Int) ≤ k := by omega
  simp [Jd6, e, h]
theorem JnG (l : List UInt8) (hl : l.length ≤ 1000) : ∃ r, J3f l = some r := by
  obtain ⟨v, hv⟩ := Jni
  obtain ⟨r, hr, _⟩ := J1z (f := fun s : Int × Int => J3g l (l.length : Int) v s.1 s.2) (fun s => ∃ j : Nat, s.2 = j ∧ j ≤ l.length) (fun s => (l.length - s.2).toNat) (fun _ => True) (fun s ⟨j, hj, h4⟩ => by
    obtain ⟨x, j'⟩ := s
    simp only at hj
    subst hj
    by_cases hlt : j < l.length
    · left
      have e1 : ((j : Nat) : Int) < (l.length : Int) := by omega
      have e2 : ∀ z : Int, Jaz .u32 z 4 = some (z.fdiv (2 ^ (min (4 : Int).toNat IntKind.u32.bits))) := fun _ => rfl
      have e3 : ∀ z : Int, ∃ y, inb 16 (J5z .u32 z 15) = some () ∧ J6Z v (J5z .u32 z 15) = some y := by
        intro z
        obtain ⟨k, hk, hk2⟩ := JwY z
        rw [hk]
        exact ⟨_, J9R hk2, J49 _ k hk2⟩
      obtain ⟨y1, a1, a2⟩ := e3 (J5S .u32 x (IntKind.wrap .u32 (((l[j]).toNat : Nat) : Int)))
      obtain ⟨y2, a3, a4⟩ := e3 (J5S .u32 ((J5S .u32 x (IntKind.wrap .u32 (((l[j]).toNat : Nat) : Int))).fdiv (2 ^ (min (4 : Int).toNat IntKind.u32.bits))) y1)
      exact ⟨⟨_, ((j + 1 : Nat) : Int)⟩, by simp only [J3g, e1, decide_true, if_true, J95 hlt, Option.bind_some, e2, a1, a2, a3, a4, J1G (show j < 1000000 by omega)]; rfl, ⟨j + 1, rfl, by omega⟩, by simp; omega⟩
    · right
      have e1 : ¬ ((j : Nat) : Int) < (l.length : Int) := by omega
      exact ⟨_, by simp only [J3g, e1, decide_false, Bool.false_eq_true, if_false, J8M, Option.map_some]; rfl, trivial⟩) (4294967295, 0) ⟨0, rfl, by omega⟩
  exact ⟨r, by unfold J3f; rw [hv]; exact hr⟩
theorem Jad (l : List UInt8) (n : Int) {k : Nat} (h1 : 1 ≤ k) (h8 : k ≤ 8) (hl : l.length ≤ 1000) : J6x l n (k : Int) = some (l ++ J05 n k) := by
  have e1 : ¬ ((k : Int) < 1 ∨ 8 < (k : Int)) := by omega
  have e2 : l.length + 8 ≤ 140737488355328 := by omega
  show Jl8 l n k = _
  rw [Jl8, if_neg e1, if_pos e2]
  simp
theorem Jeg {a b : List UInt8} (ha : a.length ≤ 1000) (hb : b.length ≤ 1000) : J4a a b = some (a ++ b) := by
  have e : a.length + b.length ≤ 4611686018427387904 := by omega
  simp [J4a, e]
theorem JcX {n : Int} (h0 : 0 ≤ n) (h1 : n ≤ 1000) : J46 [0] n = some (List.replicate n.toNat 0) := by
  show JlB [0] n = _
  have e : (0 : Int) ≤ n ∧ n ≤ 9223372036854775807 ∧ ([0] : List UInt8).length * n.toNat ≤ 140737488355328 := by
    refine ⟨h0, by omega, ?_⟩
    simp; omega
  rw [JlB, if_pos e]
  have : ∀ k : Nat, (List.replicate k ([0] : List UInt8)).flatten = List.replicate k 0 := by
    intro k
    induction k with
    | zero => rfl
    | succ k ih => rw [List.replicate_succ, List.flatten_cons, ih]; rfl
  rw [this]
theorem Jr4 (b : T_page_builder) (c : J8) (hc : c.Data.length ≤ 12) (hb : b.s_.length ≤ 300) : ∃ t, J29 b c = some ⟨b.s_ ++ t⟩ ∧ t.length = 13 := by
  have go : ∀ x : Int, ∃ t, J1H x b c = some ⟨b.s_ ++ t⟩ ∧ t.length = 13 := by
    intro x
    have e0 : IntKind.wrap .i64 (12 - ((c.Data.length : Nat) : Int)) = ((12 - c.Data.length : Nat) : Int) := by rw [J0r (by omega) (by omega)]; omega
    have e1 := Jad b.s_ x (k := 1) (by omega) (by omega) (by omega)
    have e2 : J4a (b.s_ ++ J05 x 1) c.Data = some (b.s_ ++ J05 x 1 ++ c.Data) := Jeg (by rw [List.length_append, J07]; omega) (by omega)
    have e3 := JcX (n := ((12 - c.Data.length : Nat) : Int)) (by omega) (by omega)
    have e4 : J4a (b.s_ ++ J05 x 1 ++ c.Data) (List.replicate (((12 - c.Data.length : Nat) : Int)).toNat 0) = some (b.s_ ++ J05 x 1 ++ c.Data ++ List.replicate (((12 - c.Data.length : Nat) : Int)).toNat 0) := Jeg (by simp only [List.length_append, J07]; omega) (by simp; omega)
    refine ⟨J05 x 1 ++ c.Data ++ List.replicate (((12 - c.Data.length : Nat) : Int)).toNat 0, ?_, ?_⟩
    · unfold J1H
      rw [show (1 : Int) = ((1 : Nat) : Int) by rfl, e1, Option.bind_some, e2, Option.bind_some, e0, e3, Option.bind_some, e4, Option.bind_some]
      simp only [List.append_assoc]
    · simp only [List.length_append, J07, List.length_replicate]; omega
  unfold J29
  split
  · exact go _
  · exact go _
structure JqT (p : T_api_Page) (r : List UInt8 × Int) : Prop where
  ok : r.2 = 0
  len : r.1.length = 256
  head : r.1.take 8 = J05 p.LSN 8
  tail : r.1.drop 248 = J05 p.LSN 8
  id : (r.1.drop 8).take 4 = J05 p.ID 4
theorem Jm4 (p : T_api_Page) : ∃ b, J5E p = some b ∧ (b = true → ∀ (i : Nat) (h : i < 16), (p.Cells[i]).Data.length ≤ 12) ∧ ((∀ (i : Nat) (h : i < 16), J6g p.LSN p.Cells[i]) → b = true) := by
  refine J1z (f := fun s : Int => J0B p.Cells p s) (fun s => ∃ j : Nat, s = j ∧ j ≤ 16 ∧ ∀ (i : Nat) (h : i < 16), i < j → (p.Cells[i]).Data.length ≤ 12) (fun s => (16 - s).toNat)
    (fun b => (b = true → ∀ (i : Nat) (h : i < 16), (p.Cells[i]).Data.length ≤ 12) ∧ ((∀ (i : Nat) (h : i < 16), J6g p.LSN p.Cells[i]) → b = true)) (fun s ⟨j, hj, h4, hc⟩ => ?_) 0 ⟨0, rfl, by omega, fun i h hh => by omega⟩
  subst hj
  by_cases hlt : j < 16
  · have e1 : ((j : Nat) : Int) < 16 := by omega
    have e2 := J49 p.Cells j hlt
    have e3 := J1G (show j < 1000000 by omega)
    have bad : ¬ J6g p.LSN p.Cells[j] → (∀ (i : Nat) (h : i < 16), J6g p.LSN p.Cells[i]) → false = true := fun h1 h2 => (h1 (h2 j hlt)).elim
    by_cases h12 : (((p.Cells[j]).Data.length : Nat) : Int) > 12
    · right
      exact ⟨false, by simp only [J0B, e1, decide_true, if_true, e2, Option.bind_some, h12], fun h => (by cases h), bad fun h => by have := h.1; omega⟩
    · have nxt : ∀ (i : Nat) (h : i < 16), i < j + 1 → (p.Cells[i]).Data.length ≤ 12 := by
        intro i hi hij
        by_cases hh : i < j
        · exact hc i hi hh
        · obtain rfl : i = j := by omega
          omega
      by_cases hs : (p.Cells[j]).Set = true
      · by_cases hl : p.LSN = 0
        · right
          exact ⟨false, by simp only [J0B, e1, decide_true, if_true, e2, Option.bind_some, h12, decide_false, Bool.false_eq_true, if_false, hs, hl, beq_self_eq_true], fun h => (by cases h), bad fun h => h.2.2 hs hl⟩
        · left
          have e4 : (p.LSN == 0) = false := by simpa using hl
          exact ⟨((j + 1 : Nat) : Int), by simp only [J0B, e1, decide_true, if_true, e2, Option.bind_some, h12, decide_false, Bool.false_eq_true, if_false, hs, e4, e3], ⟨j + 1, rfl, by omega, nxt⟩, by omega⟩
      · have hs' : (p.Cells[j]).Set = false := by simpa using hs
        by_cases hd : (p.Cells[j]).Data = []
        · left
          exact ⟨((j + 1 : Nat) : Int), by simp only [J0B, e1, decide_true, if_true, e2, Option.bind_some, h12, decide_false, Bool.false_eq_true, if_false, hs', hd, beq_self_eq_true, e3]; rfl, ⟨j + 1, rfl, by omega, nxt⟩, by omega⟩
        · right
          have e4 : ((p.Cells[j]).Data == []) = false := by simpa using hd
          exact ⟨false, by simp only [J0B, e1, decide_true, if_true, e2, Option.bind_some, h12, decide_false, Bool.false_eq_true, if_false, hs', e4], fun h => (by cases h), bad fun h => hd (h.2.1 hs')⟩
  · right
    have e1 : ¬ ((j : Nat) : Int) < 16 := by omega
    exact ⟨true, by simp only [J0B, e1, decide_false, Bool.false_eq_true, if_false, J89, Option.map_some], fun _ i h => hc i h (by omega), fun _ => rfl⟩
end Go.Am
end
