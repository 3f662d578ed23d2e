/-
  Parts of a proof: YtiallbcnaadmoaaKS4, YtiallbcnaadmoaaKS5, YtiallbcnaadmoaaKS6, YtiallbcnaadmoaaKSz, YtiallbcnaadmoaaPlain.
-/
import Derived.Test.YtiallbcnaadmoaaM8
set_option linter.unusedSimpArgs false
set_option linter.unusedVariables false
section
namespace Go.Am
set_option maxRecDepth 8000
set_option maxHeartbeats 4000000
set_option linter.unusedSimpArgs false
set_option linter.unusedVariables false
noncomputable section
variable (p : FuncId → Option (List AV → List Blk → Option Res))
def JbJ  : Option (Bool) :=
  some true
def J2N (b0 : T_api_Page) (x3 : Int) : Option (((Int) ⊕ (Bool))) :=
  if (decide (x3 < 16)) then
    Option.bind (inb 16 x3) fun u2 =>
    Option.bind (J5i b0.Cells x3) fun y5 =>
    Option.bind (J1N y5) fun r8 =>
    if r8 then
      if ((b0.LSN : Int) == 0) then
        if y5.Set then
          some (.inr false)
        else
          some (.inl (IntKind.wrap .i64 (x3 + 1)))
      else
        some (.inl (IntKind.wrap .i64 (x3 + 1)))
    else
      some (.inr false)
  else
    Option.map (fun o => .inr o) (JbJ)
def JhD (b0 : T_api_Page) (s : Int) : Option (Bool) :=
  JQ (fun s => J2N b0 s) s
def Ja6 (x0 : T_api_Page) : Option (Bool) :=
  JhD x0 0
def J8E  (r : Bool) : Option Res := some (.p (.b r), [])
def J1g (x0 : Jq) : Option (Bool) :=
  Option.bind (J0E x0.LSN) fun r1 =>
  if r1 then
    Option.bind (J0E x0.Image) fun r5 =>
    if r5 then
      Option.bind (J0E x0.ImageLSN) fun r9 =>
      if r9 then
        if ((x0.Image : Int) == 0) then
          some ((x0.ImageLSN : Int) != 0)
        else
          some false
      else
        some true
    else
      some true
  else
    some true
theorem Jb8 {x0 : Jq} {o : Bool} (h : J1g x0 = some o) :
    rk (J1 p) J2x 0 [] (X (J1 p) J0m ⟨[(0, .data (Jj x0))], []⟩) = J8E o := by
  unfold J1g at h
  obtain ⟨r1, h2, h⟩ := bi h
  have f3 := J6s p h2
  try simp only [Nf] at f3
  try simp only [↓Da, Ua, J0m, Jn, *, ↓reduceIte, Nat.reduceEqDiff, Nat.reduceAdd, Nat.reduceLT, Nat.reduceMul]
  rcases Je h with ⟨h4, h⟩ | ⟨h4, h⟩
  · obtain ⟨r5, h6, h⟩ := bi h
    have f7 := J6s p h6
    try simp only [Nf] at f7
    try simp only [↓Da, Ua, J0m, Jn, *, ↓reduceIte, Nat.reduceEqDiff, Nat.reduceAdd, Nat.reduceLT, Nat.reduceMul]
    rcases Je h with ⟨h8, h⟩ | ⟨h8, h⟩
    · obtain ⟨r9, h10, h⟩ := bi h
      have f11 := J6s p h10
      try simp only [Nf] at f11
      try simp only [↓Da, Ua, J0m, Jn, *, ↓reduceIte, Nat.reduceEqDiff, Nat.reduceAdd, Nat.reduceLT, Nat.reduceMul]
      rcases Je h with ⟨h12, h⟩ | ⟨h12, h⟩
      · try simp only [↓Da, Ua, J0m, Jn, *, ↓reduceIte, Nat.reduceEqDiff, Nat.reduceAdd, Nat.reduceLT, Nat.reduceMul]
        rcases Je h with ⟨h13, h⟩ | ⟨h13, h⟩
        · have h13n : ((x0.Image : Int) != 0) = false := by rw [bne, h13]; rfl
          obtain rfl := sj h
          try simp only [↓Da, Ua, J0m, Jn, J3z, *, ↓reduceIte, Nat.reduceEqDiff, Nat.reduceAdd, Nat.reduceLT, Nat.reduceMul]
          rfl
        · have h13n : ((x0.Image : Int) != 0) = true := by rw [bne, h13]; rfl
          obtain rfl := sj h
          try simp only [↓Da, Ua, J0m, Jn, J3z, *, ↓reduceIte, Nat.reduceEqDiff, Nat.reduceAdd, Nat.reduceLT, Nat.reduceMul]
          rfl
      · obtain rfl := sj h
        try simp only [↓Da, Ua, J0m, Jn, J3z, *, ↓reduceIte, Nat.reduceEqDiff, Nat.reduceAdd, Nat.reduceLT, Nat.reduceMul]
        rfl
    · obtain rfl := sj h
      try simp only [↓Da, Ua, J0m, Jn, J3z, *, ↓reduceIte, Nat.reduceEqDiff, Nat.reduceAdd, Nat.reduceLT, Nat.reduceMul]
      rfl
  · obtain rfl := sj h
    try simp only [↓Da, Ua, J0m, Jn, J3z, *, ↓reduceIte, Nat.reduceEqDiff, Nat.reduceAdd, Nat.reduceLT, Nat.reduceMul]
    rfl
theorem Jdk {x0 : Jq} {o : Bool} (h : J1g x0 = some o) : AF (J1 p) JZ [.data (Jj x0)] [] = J8E o :=
  (J14 (J1 p) (JcV p) rfl).trans (Jb8 p h)
theorem Jd4 {x0 : Jq} {o : Bool} (h : J1g x0 = some o) : ∀ ws new st, (Jx (AF (J1 p)) JZ ([.data (Jj x0)], ws) 0 new).run st = some ⟨.p (.b o), ws⟩ := JW rfl (Jdk p h) rfl
def JcQ  (r : Bool) : Option Res := some (.p (.b r), [])
def J4Z (x0 : Jp) : Option (Bool) :=
  Option.bind (J6f x0.Page) fun r1 =>
  if r1 then
    if (decide (x0.Slot ≥ 0)) then
      if (decide (x0.Slot < 16)) then
        Option.bind (J3e x0.Before) fun r7 =>
        if r7 then
          Option.bind (J3e x0.After) fun r11 =>
          some r11
        else
          some false
      else
        some false
    else
      some false
  else
    some false
theorem Jer {x0 : Jp} {o : Bool} (h : J4Z x0 = some o) :
    rk (J1 p) J4X 0 [] (X (J1 p) J1j ⟨[(0, .data (J9 x0))], []⟩) = JcQ o := by
  unfold J4Z at h
  obtain ⟨r1, h2, h⟩ := bi h
  have f3 := Jj5 p h2
  try simp only [Nf] at f3
  try simp only [↓Da, Ua, J1j, J6, Jo, *, ↓reduceIte, Nat.reduceEqDiff, Nat.reduceAdd, Nat.reduceLT, Nat.reduceMul]
  rcases Je h with ⟨h4, h⟩ | ⟨h4, h⟩
  · try simp only [↓Da, Ua, J1j, J6, Jo, *, ↓reduceIte, Nat.reduceEqDiff, Nat.reduceAdd, Nat.reduceLT, Nat.reduceMul]
    rcases Je h with ⟨h5, h⟩ | ⟨h5, h⟩
    · try simp only [↓Da, Ua, J1j, J6, Jo, *, ↓reduceIte, Nat.reduceEqDiff, Nat.reduceAdd, Nat.reduceLT, Nat.reduceMul]
      rcases Je h with ⟨h6, h⟩ | ⟨h6, h⟩
      · obtain ⟨r7, h8, h⟩ := bi h
        have f9 := J9M p h8
        try simp only [Nf] at f9
        try simp only [↓Da, Ua, J1j, J6, Jo, *, ↓reduceIte, Nat.reduceEqDiff, Nat.reduceAdd, Nat.reduceLT, Nat.reduceMul]
        rcases Je h with ⟨h10, h⟩ | ⟨h10, h⟩
        · obtain ⟨r11, h12, h⟩ := bi h
          have f13 := J9M p h12
          try simp only [Nf] at f13
          obtain rfl := sj h
          try simp only [↓Da, Ua, J1j, J6, Jo, J65, *, ↓reduceIte, Nat.reduceEqDiff, Nat.reduceAdd, Nat.reduceLT, Nat.reduceMul]
          rfl
        · obtain rfl := sj h
          try simp only [↓Da, Ua, J1j, J6, Jo, J65, *, ↓reduceIte, Nat.reduceEqDiff, Nat.reduceAdd, Nat.reduceLT, Nat.reduceMul]
          rfl
      · obtain rfl := sj h
        try simp only [↓Da, Ua, J1j, J6, Jo, J65, *, ↓reduceIte, Nat.reduceEqDiff, Nat.reduceAdd, Nat.reduceLT, Nat.reduceMul]
        rfl
    · obtain rfl := sj h
      try simp only [↓Da, Ua, J1j, J6, Jo, J65, *, ↓reduceIte, Nat.reduceEqDiff, Nat.reduceAdd, Nat.reduceLT, Nat.reduceMul]
      rfl
  · obtain rfl := sj h
    try simp only [↓Da, Ua, J1j, J6, Jo, J65, *, ↓reduceIte, Nat.reduceEqDiff, Nat.reduceAdd, Nat.reduceLT, Nat.reduceMul]
    rfl
theorem Jjb {x0 : Jp} {o : Bool} (h : J4Z x0 = some o) : AF (J1 p) J0y [.data (J9 x0)] [] = JcQ o :=
  (J14 (J1 p) (JiG p) rfl).trans (Jer p h)
theorem JcH {x0 : Jp} {o : Bool} (h : J4Z x0 = some o) : ∀ ws new st, (Jx (AF (J1 p)) J0y ([.data (J9 x0)], ws) 0 new).run st = some ⟨.p (.b o), ws⟩ := JW rfl (Jjb p h) rfl
def J5v  (r : (List UInt8) × Int) : Option Res := some (.tup [.p (.s r.1), .p (.i .i64 r.2)], [])
def Ji8 (x28 : Vector J5 16) (b0 : T_api_Page) (o : (Int × T_page_builder) ⊕ ((List UInt8) × Int)) : Option Res := match o with
  | .inl s => rk (J1 p) J29 0 [.bl 1, .td 2 [1, 2, 3, 4], .sq (.keep [1, 4] J3s)] (X (J1 p) (.lp 2 [1, 4, 5, 28, 29] J2O) ⟨[(1, .ptr 0 0), (4, .ptr 1 0), (5, .fn J1b [.ptr 1 0] []), (28, .data ((J07 Jd) x28)), (29, .p (.i .i64 s.1))], [.box (List.map AV.p (J4 b0)), .box (List.map AV.p (J0R s.2))]⟩)
  | .inr o => J5v o
def J5Q (b0 : T_api_Page) (b1 : T_page_builder) : Option ((List UInt8) × Int) :=
  Option.bind (J38 ([0]) (IntKind.wrap .i64 (244 - ((List.length b1.s_ : Nat) : Int)))) fun r1 =>
  Option.bind (J37 b1.s_ r1) fun s5 =>
  Option.bind (J1X s5) fun r7 =>
  Option.bind (J4S s5 (IntKind.wrap .i64 r7) 4) fun r11 =>
  Option.bind (J4S r11 b0.LSN 8) fun r15 =>
  some (r15, 0)
theorem Jil {b0 : T_api_Page} {b1 : T_page_builder} {o : (List UInt8) × Int} (h : J5Q b0 b1 = some o) :
    rk (J1 p) J29 0 [] (X (J1 p) J3s ⟨[(1, .ptr 0 0), (4, .ptr 1 0)], [.box (List.map AV.p (J4 b0)), .box (List.map AV.p (J0R b1))]⟩) = J5v o := by
  unfold J5Q at h
  obtain ⟨r1, h2, h⟩ := bi h
  have f3 := J8u p h2
  try simp only [Nf, JK] at f3
  have f4 : ∀ ws k new s, Jm ((Jx (AF (J1 p)) J28 ([.p (.s [0]), .p (.i .i64 (IntKind.wrap .i64 (244 - ((List.length b1.s_ : Nat) : Int))))], ws) k new).reads s) = [] := J12 rfl
  try simp only [Nf, JK] at f4
  obtain ⟨s5, h6, h⟩ := bi h
  obtain ⟨r7, h8, h⟩ := bi h
  have f9 := Jg5 p h8
  try simp only [Nf, JK] at f9
  have f10 : ∀ ws k new s, Jm ((Jx (AF (J1 p)) J4Q ([.p (.s s5)], ws) k new).reads s) = [] := J12 rfl
  try simp only [Nf, JK] at f10
  obtain ⟨r11, h12, h⟩ := bi h
  have f13 := J82 p h12
  try simp only [Nf, JK] at f13
  have f14 : ∀ ws k new s, Jm ((Jx (AF (J1 p)) J21 ([.p (.s s5), .p (.i .i64 (IntKind.wrap .i64 r7)), .p (.i .i64 4)], ws) k new).reads s) = [] := J12 rfl
  try simp only [Nf, JK] at f14
  obtain ⟨r15, h16, h⟩ := bi h
  have f17 := J82 p h16
  try simp only [Nf, JK] at f17
  have f18 : ∀ ws k new s, Jm ((Jx (AF (J1 p)) J21 ([.p (.s r11), .p (.i .i64 b0.LSN), .p (.i .i64 8)], ws) k new).reads s) = [] := J12 rfl
  try simp only [Nf, JK] at f18
  obtain rfl := sj h
  try simp only [↓Da, Ua, Ra, J3s, J6, J2, Jf, JK, Jac, *, ↓reduceIte, Nat.reduceEqDiff, Nat.reduceAdd, Nat.reduceLT, Nat.reduceMul, Nat.reduceBEq]
  rfl
def J1Z (x28 : Vector J5 16) (b0 : T_api_Page) (x29 : Int) (b1 : T_page_builder) : Option (((Int × T_page_builder) ⊕ ((List UInt8) × Int))) :=
  if (decide (x29 < 16)) then
    Option.bind (J5i x28 x29) fun y2 =>
    Option.bind (J1J b1 y2) fun r6 =>
    some (.inl ((IntKind.wrap .i64 (x29 + 1)), r6))
  else
    Option.map (fun o => .inr o) (J5Q b0 b1)
theorem JbG {x28 : Vector J5 16} {b0 : T_api_Page} {x29 : Int} {b1 : T_page_builder} {o : ((Int × T_page_builder) ⊕ ((List UInt8) × Int))} (h : J1Z x28 b0 x29 b1 = some o) :
    rk (J1 p) J29 0 [.lo 2 [1, 4, 5, 28, 29] J2O, .bl 1, .td 2 [1, 2, 3, 4], .sq (.keep [1, 4] J3s)] (X (J1 p) J2O ⟨[(1, .ptr 0 0), (4, .ptr 1 0), (5, .fn J1b [.ptr 1 0] []), (28, .data ((J07 Jd) x28)), (29, .p (.i .i64 x29))], [.box (List.map AV.p (J4 b0)), .box (List.map AV.p (J0R b1))]⟩) = (Ji8 p x28 b0) o := by
  unfold J1Z at h
  rcases Je h with ⟨h1, h⟩ | ⟨h1, h⟩
  · obtain ⟨y2, h3, h⟩ := bi h
    have f4 : (0 ≤ (x29 : Int) ∧ (x29 : Int) < ((16 : Nat) : Int)) = True := eq_true (J8s h3).1
    have f5 : sub (J07 Jd x28) (Int.toNat x29 * 2) 2 = some (Jd y2) := Jim JU (J8s h3).2
    try simp only [Nf, JK] at f5
    obtain ⟨r6, h7, h⟩ := bi h
    have f8 : ∀ ws new s, J1o ws s [1] [List.map AV.p (J0R b1)] → (Jx (AF (J1 p)) J1b ([.ptr 1 0, .data (Jd y2)], ws) 0 new).run s = some ⟨.tup [], ws ++ [(1, .box (List.map AV.p (J0R r6)))]⟩ := J10 (args' := [.ptr 0 0, .data (Jd y2)]) (bs := [1]) (css := [List.map AV.p (J0R b1)]) (css' := [List.map AV.p (J0R r6)]) rfl rfl rfl (by simp [J02, Jy]) (Je6 p h7) rfl rfl (by simp [J02, Jy])
    try simp only [Nf, JK] at f8
    obtain rfl := sj h
    try simp only [↓Da, Ua, J2O, J6, JK, *, ↓reduceIte, Nat.reduceEqDiff, Nat.reduceAdd, Nat.reduceLT, Nat.reduceMul]
    rfl
  · obtain ⟨o', h', rfl⟩ := mi h
    try simp only [↓Da, Ua, J2O, J6, JK, *, ↓reduceIte, Nat.reduceEqDiff, Nat.reduceAdd, Nat.reduceLT, Nat.reduceMul]
    have e0 := Jil p h'
    exact e0
def J8F (x28 : Vector J5 16) (b0 : T_api_Page) (s : Int × T_page_builder) : Option ((List UInt8) × Int) :=
  JQ (fun s => J1Z x28 b0 s.1 s.2) s
theorem Jfv {x28 : Vector J5 16} {b0 : T_api_Page} {s : Int × T_page_builder} {o : (List UInt8) × Int} (h : J8F x28 b0 s = some o) :
    rk (J1 p) J29 0 [.bl 1, .td 2 [1, 2, 3, 4], .sq (.keep [1, 4] J3s)] (X (J1 p) (.lp 2 [1, 4, 5, 28, 29] J2O) ⟨[(1, .ptr 0 0), (4, .ptr 1 0), (5, .fn J1b [.ptr 1 0] []), (28, .data ((J07 Jd) x28)), (29, .p (.i .i64 s.1))], [.box (List.map AV.p (J4 b0)), .box (List.map AV.p (J0R s.2))]⟩) = J5v o := by
  have h0 : JQ (fun s => J1Z x28 b0 s.1 s.2) s = some o := h
  exact J3l (P := fun (s : Int × T_page_builder) (o : (List UInt8) × Int) => rk (J1 p) J29 0 [.bl 1, .td 2 [1, 2, 3, 4], .sq (.keep [1, 4] J3s)] (X (J1 p) (.lp 2 [1, 4, 5, 28, 29] J2O) ⟨[(1, .ptr 0 0), (4, .ptr 1 0), (5, .fn J1b [.ptr 1 0] []), (28, .data ((J07 Jd) x28)), (29, .p (.i .i64 s.1))], [.box (List.map AV.p (J4 b0)), .box (List.map AV.p (J0R s.2))]⟩) = J5v o) (fun s r hs => by rw [J4p]; exact JbG p hs) (fun s s1 r hs ih => by rw [J4p]; exact (JbG p hs).trans ih) h0
def J0B (x0 : T_api_Page) : Option ((List UInt8) × Int) :=
  Option.bind (J1v x0) fun r1 =>
  if r1 then
    Option.bind (J4o x0) fun r5 =>
    if r5 then
      Option.bind (J4S ([]) x0.LSN 8) fun r9 =>
      Option.bind (J4S r9 x0.ID 4) fun r13 =>
      J8F x0.Cells x0 (0, (⟨r13⟩ : T_page_builder))
    else
      some (([] : List UInt8), 22)
  else
    some (([] : List UInt8), 1)
theorem JfT {x0 : T_api_Page} {o : (List UInt8) × Int} (h : J0B x0 = some o) :
    rk (J1 p) J29 0 [] (X (J1 p) J33 ⟨[(0, .data (J4 x0))], []⟩) = J5v o := by
  unfold J0B at h
  obtain ⟨r1, h2, h⟩ := bi h
  have f3 := Jkv p h2
  try simp only [Nf, JK] at f3
  try simp only [↓Da, Ua, Ra, J33, J6, J2, Jf, JK, *, ↓reduceIte, Nat.reduceEqDiff, Nat.reduceAdd, Nat.reduceLT, Nat.reduceMul, Nat.reduceBEq]
  rcases Je h with ⟨h4, h⟩ | ⟨h4, h⟩
  · obtain ⟨r5, h6, h⟩ := bi h
    have f7 := JlB p h6
    try simp only [Nf, JK] at f7
    try simp only [↓Da, Ua, Ra, J33, J6, J2, Jf, JK, *, ↓reduceIte, Nat.reduceEqDiff, Nat.reduceAdd, Nat.reduceLT, Nat.reduceMul, Nat.reduceBEq]
    rcases Je h with ⟨h8, h⟩ | ⟨h8, h⟩
    · obtain ⟨r9, h10, h⟩ := bi h
      have f11 := J82 p h10
      try simp only [Nf, JK] at f11
      have f12 : ∀ ws k new s, Jm ((Jx (AF (J1 p)) J21 ([.p (.s []), .p (.i .i64 x0.LSN), .p (.i .i64 8)], ws) k new).reads s) = [] := J12 rfl
      try simp only [Nf, JK] at f12
      obtain ⟨r13, h14, h⟩ := bi h
      have f15 := J82 p h14
      try simp only [Nf, JK] at f15
      have f16 : ∀ ws k new s, Jm ((Jx (AF (J1 p)) J21 ([.p (.s r9), .p (.i .i64 x0.ID), .p (.i .i64 4)], ws) k new).reads s) = [] := J12 rfl
      try simp only [Nf, JK] at f16
      try simp only [↓Da, Ua, Ra, J33, J6, J2, Jf, JK, *, ↓reduceIte, Nat.reduceEqDiff, Nat.reduceAdd, Nat.reduceLT, Nat.reduceMul, Nat.reduceBEq]
      have e0 := Jfv p h
      exact e0
    · obtain rfl := sj h
      try simp only [↓Da, Ua, Ra, J33, J6, J2, Jf, JK, Jac, *, ↓reduceIte, Nat.reduceEqDiff, Nat.reduceAdd, Nat.reduceLT, Nat.reduceMul, Nat.reduceBEq]
      rfl
  · obtain rfl := sj h
    try simp only [↓Da, Ua, Ra, J33, J6, J2, Jf, JK, Jac, *, ↓reduceIte, Nat.reduceEqDiff, Nat.reduceAdd, Nat.reduceLT, Nat.reduceMul, Nat.reduceBEq]
    rfl
theorem JkC {x0 : T_api_Page} {o : (List UInt8) × Int} (h : J0B x0 = some o) : AF (J1 p) J3R [.data (J4 x0)] [] = J5v o :=
  (J14 (J1 p) (Jkj p) rfl).trans (JfT p h)
theorem Ja8 {x0 : T_api_Page} {o : (List UInt8) × Int} (h : J0B x0 = some o) : ∀ ws new st, (Jx (AF (J1 p)) J3R ([.data (J4 x0)], ws) 0 new).run st = some ⟨.tup [.p (.s o.1), .p (.i .i64 o.2)], ws⟩ := JW rfl (JkC p h) rfl
def Jab (x0 : T_api_Page) : Option (Int) :=
  Option.bind (J8P x0) fun r1 =>
  if r1 then
    Option.bind (Ja6 x0) fun r5 =>
    if r5 then
      some 0
    else
      some 22
  else
    some 1
def J00  (r : Int) : Option Res := some (.p (.i .i64 r), [])
def J4b (x0 : List Jq) (x7 : Int) (o : (Int) ⊕ (Int)) : Option Res := match o with
  | .inl s => rk (J1 p) JT 0 [.bl 0, .sq (.keep [] J0k)] (X (J1 p) (.lp 0 [0, 1, 7, 8] JX) ⟨[(0, .p (.sl 3 (List.map Jj x0))), (1, .fn JZ [] []), (7, .p (.i .i64 x7)), (8, .p (.i .i64 s))], []⟩)
  | .inr o => J00 o
def J06  : Option (Int) :=
  some (-1)
theorem J47  {o : Int} (h : J06 = some o) :
    rk (J1 p) JT 0 [] (X (J1 p) J0k ⟨[], []⟩) = J00 o := by
  unfold J06 at h
  obtain rfl := sj h
  try simp only [↓Da, Ua, J0k, J4H, ↓reduceIte, Nat.reduceEqDiff, Nat.reduceAdd, Nat.reduceLT, Nat.reduceMul]
  rfl
def Jv (x0 : List Jq) (x7 : Int) (x8 : Int) : Option (((Int) ⊕ (Int))) :=
  if (decide (x8 < x7)) then
    Option.bind (idx x0 x8) fun y2 =>
    Option.bind (J1g y2) fun r5 =>
    if r5 then
      some (.inr x8)
    else
      some (.inl (IntKind.wrap .i64 (x8 + 1)))
  else
    Option.map (fun o => .inr o) (J06)
theorem J1T {x0 : List Jq} {x7 : Int} {x8 : Int} {o : ((Int) ⊕ (Int))} (h : Jv x0 x7 x8 = some o) :
    rk (J1 p) JT 0 [.lo 0 [0, 1, 7, 8] JX, .bl 0, .sq (.keep [] J0k)] (X (J1 p) JX ⟨[(0, .p (.sl 3 (List.map Jj x0))), (1, .fn JZ [] []), (7, .p (.i .i64 x7)), (8, .p (.i .i64 x8))], []⟩) = (J4b p x0 x7) o := by
  unfold Jv at h
  rcases Je h with ⟨h1, h⟩ | ⟨h1, h⟩
  · obtain ⟨y2, h3, h⟩ := bi h
    have f4 := JbA (r := Jj) h3
    try simp only [Nf] at f4
    obtain ⟨r5, h6, h⟩ := bi h
    have f7 := Jd4 p h6
    try simp only [Nf] at f7
    try simp only [↓Da, Ua, JX, Jn, *, ↓reduceIte, Nat.reduceEqDiff, Nat.reduceAdd, Nat.reduceLT, Nat.reduceMul]
    rcases Je h with ⟨h8, h⟩ | ⟨h8, h⟩
    · obtain rfl := sj h
      try simp only [↓Da, Ua, JX, Jn, J4H, *, ↓reduceIte, Nat.reduceEqDiff, Nat.reduceAdd, Nat.reduceLT, Nat.reduceMul]
      rfl
    · obtain rfl := sj h
      try simp only [↓Da, Ua, JX, Jn, *, ↓reduceIte, Nat.reduceEqDiff, Nat.reduceAdd, Nat.reduceLT, Nat.reduceMul]
      rfl
  · obtain ⟨o', h', rfl⟩ := mi h
    try simp only [↓Da, Ua, JX, Jn, *, ↓reduceIte, Nat.reduceEqDiff, Nat.reduceAdd, Nat.reduceLT, Nat.reduceMul]
    have e0 := J47 p h'
    exact e0
def J1S (x0 : List Jq) (x7 : Int) (s : Int) : Option (Int) :=
  JQ (fun s => Jv x0 x7 s) s
theorem J3U {x0 : List Jq} {x7 : Int} {s : Int} {o : Int} (h : J1S x0 x7 s = some o) :
    rk (J1 p) JT 0 [.bl 0, .sq (.keep [] J0k)] (X (J1 p) (.lp 0 [0, 1, 7, 8] JX) ⟨[(0, .p (.sl 3 (List.map Jj x0))), (1, .fn JZ [] []), (7, .p (.i .i64 x7)), (8, .p (.i .i64 s))], []⟩) = J00 o := by
  have h0 : JQ (fun s => Jv x0 x7 s) s = some o := h
  exact J3l (P := fun (s : Int) (o : Int) => rk (J1 p) JT 0 [.bl 0, .sq (.keep [] J0k)] (X (J1 p) (.lp 0 [0, 1, 7, 8] JX) ⟨[(0, .p (.sl 3 (List.map Jj x0))), (1, .fn JZ [] []), (7, .p (.i .i64 x7)), (8, .p (.i .i64 s))], []⟩) = J00 o) (fun s r hs => by rw [J4p]; exact J1T p hs) (fun s s1 r hs ih => by rw [J4p]; exact (J1T p hs).trans ih) h0
def J01 (x0 : List Jq) : Option (Int) :=
  J1S x0 ((List.length x0 : Nat) : Int) 0
theorem J3W {x0 : List Jq} {o : Int} (h : J01 x0 = some o) :
    rk (J1 p) JT 0 [] (X (J1 p) J1d ⟨[(0, .p (.sl 3 (List.map Jj x0))), (1, .fn JZ [] [])], []⟩) = J00 o := by
  unfold J01 at h
  try simp only [↓Da, Ua, J1d, Jn, ↓reduceIte, Nat.reduceEqDiff, Nat.reduceAdd, Nat.reduceLT, Nat.reduceMul]
  have e0 := J3U p h
  exact e0
theorem J4h {x0 : List Jq} {o : Int} (h : J01 x0 = some o) : AF (J1 p) J0I [.p (.sl 3 (List.map Jj x0)), .fn JZ [] []] [] = J00 o :=
  (J14 (J1 p) (J7Q p) rfl).trans (J3W p h)
def J1I  (r : Bool) : Option Res := some (.p (.b r), [])
def JV (x0 : List Jq) : Option (Bool) :=
  Option.bind (J01 x0) fun r1 =>
  some (decide (r1 ≥ 0))
theorem J3p {x0 : List Jq} {o : Bool} (h : JV x0 = some o) :
    rk (J1 p) J0v 0 [] (X (J1 p) J0T ⟨[(0, .p (.sl 3 (List.map Jj x0))), (1, .fn JZ [] [])], []⟩) = J1I o := by
  unfold JV at h
  obtain ⟨r1, h2, h⟩ := bi h
  have f3 : ∀ ws new s, (Jx (AF (J1 p)) J0I ([.p (.sl 3 (List.map Jj x0)), .fn JZ [] []], ws) 0 new).run s = some ⟨.p (.i .i64 r1), ws⟩ := fun ws new s => (J10 (args' := [.p (.sl 3 (List.map Jj x0)), .fn JZ [] []]) (bs := []) (css := []) (css' := []) rfl rfl rfl rfl (J4h p h2) rfl rfl rfl ws new s trivial).trans (by simp)
  try simp only [Nf] at f3
  obtain rfl := sj h
  try simp only [↓Da, Ua, J0T, Jn, J7b, *, ↓reduceIte, Nat.reduceEqDiff, Nat.reduceAdd, Nat.reduceLT, Nat.reduceMul]
  rfl
theorem J40 {x0 : List Jq} {o : Bool} (h : JV x0 = some o) : AF (J1 p) J0u [.p (.sl 3 (List.map Jj x0)), .fn JZ [] []] [] = J1I o :=
  (J14 (J1 p) (J7c p) rfl).trans (J3p p h)
def Jam  (r : Bool) : Option Res := some (.p (.b r), [])
def J1s (x0 : Ji) : Option (Bool) :=
  if (decide (((List.length x0.Rows : Nat) : Int) ≥ 1)) then
    if (decide (((List.length x0.Rows : Nat) : Int) ≤ 64)) then
      Option.bind (JV x0.Rows) fun r3 =>
      some (!r3)
    else
      some false
  else
    some false
theorem Jcl {x0 : Ji} {o : Bool} (h : J1s x0 = some o) :
    rk (J1 p) J3M 0 [] (X (J1 p) J2e ⟨[(0, .data (JE x0))], []⟩) = Jam o := by
  unfold J1s at h
  rcases Je h with ⟨h1, h⟩ | ⟨h1, h⟩
  · try simp only [↓Da, Ua, J2e, Jc, Jn, *, ↓reduceIte, Nat.reduceEqDiff, Nat.reduceAdd, Nat.reduceLT, Nat.reduceMul]
    rcases Je h with ⟨h2, h⟩ | ⟨h2, h⟩
    · obtain ⟨r3, h4, h⟩ := bi h
      have f5 : ∀ ws new s, (Jx (AF (J1 p)) J0u ([.p (.sl 3 (List.map Jj x0.Rows)), .fn JZ [] []], ws) 0 new).run s = some ⟨.p (.b r3), ws⟩ := fun ws new s => (J10 (args' := [.p (.sl 3 (List.map Jj x0.Rows)), .fn JZ [] []]) (bs := []) (css := []) (css' := []) rfl rfl rfl rfl (J40 p h4) rfl rfl rfl ws new s trivial).trans (by simp)
      try simp only [Nf, Jc] at f5
      obtain rfl := sj h
      try simp only [↓Da, Ua, J2e, Jc, Jn, J7V, *, ↓reduceIte, Nat.reduceEqDiff, Nat.reduceAdd, Nat.reduceLT, Nat.reduceMul]
      rfl
    · obtain rfl := sj h
      try simp only [↓Da, Ua, J2e, Jc, Jn, J7V, *, ↓reduceIte, Nat.reduceEqDiff, Nat.reduceAdd, Nat.reduceLT, Nat.reduceMul]
      rfl
  · obtain rfl := sj h
    try simp only [↓Da, Ua, J2e, Jc, Jn, J7V, *, ↓reduceIte, Nat.reduceEqDiff, Nat.reduceAdd, Nat.reduceLT, Nat.reduceMul]
    rfl
theorem Jg2 {x0 : Ji} {o : Bool} (h : J1s x0 = some o) : AF (J1 p) J2B [.data (JE x0)] [] = Jam o :=
  (J14 (J1 p) (Jft p) rfl).trans (Jcl p h)
theorem Jau {x0 : Ji} {o : Bool} (h : J1s x0 = some o) : ∀ ws new st, (Jx (AF (J1 p)) J2B ([.data (JE x0)], ws) 0 new).run st = some ⟨.p (.b o), ws⟩ := JW rfl (Jg2 p h) rfl
def J0O  (r : Bool) : Option Res := some (.p (.b r), [])
def J90 (b0 : Ja) : Option (Bool) :=
  if (decide (((List.length b0.Blob : Nat) : Int) ≤ 8192)) then
    Option.bind (J26 b0) fun r2 =>
    if r2 then
      Option.bind (J4Z b0.Change) fun r6 =>
      some r6
    else
      some false
  else
    some false
theorem JhR {b0 : Ja} {o : Bool} (h : J90 b0 = some o) :
    rk (J1 p) J0l 0 [] (X (J1 p) JF ⟨[(1, .ptr 0 0), (3, .ptr 1 0)], [.box (List.map AV.p (J3 b0)), .box [.p (.b true), .p (.b false), .p (.b true), .p (.b false), .p (.b false), .fn JC [] [], .fn J0y [] []]]⟩) = J0O o := by
  unfold J90 at h
  rcases Je h with ⟨h1, h⟩ | ⟨h1, h⟩
  · obtain ⟨r2, h3, h⟩ := bi h
    have f4 := J6l p h3
    try simp only [Nf, Jb, J7, J8] at f4
    try simp only [↓Da, Ua, JF, Jb, J7, J8, *, ↓reduceIte, Nat.reduceEqDiff, Nat.reduceAdd, Nat.reduceLT, Nat.reduceMul]
    rcases Je h with ⟨h5, h⟩ | ⟨h5, h⟩
    · obtain ⟨r6, h7, h⟩ := bi h
      have f8 := JcH p h7
      try simp only [Nf, Jb, J7, J8] at f8
      obtain rfl := sj h
      try simp only [↓Da, Ua, JF, Jb, J7, J8, JB, *, ↓reduceIte, Nat.reduceEqDiff, Nat.reduceAdd, Nat.reduceLT, Nat.reduceMul]
      rfl
    · obtain rfl := sj h
      try simp only [↓Da, Ua, JF, Jb, J7, J8, JB, *, ↓reduceIte, Nat.reduceEqDiff, Nat.reduceAdd, Nat.reduceLT, Nat.reduceMul]
      rfl
  · obtain rfl := sj h
    try simp only [↓Da, Ua, JF, Jb, J7, J8, JB, *, ↓reduceIte, Nat.reduceEqDiff, Nat.reduceAdd, Nat.reduceLT, Nat.reduceMul]
    rfl
def J5M (x47 : Bool) (b0 : Ja) : Option (Bool) :=
  if x47 then
    some false
  else
    if ((b0.Ref : Int) != 0) then
      some false
    else
      if (b0.Blob == []) then
        J90 b0
      else
        some false
theorem J91 {x47 : Bool} {b0 : Ja} {o : Bool} (h : J5M x47 b0 = some o) :
    rk (J1 p) J0l 0 [.bl 0, .sq (.keep [1, 3] JF)] (X (J1 p) Jr ⟨[(1, .ptr 0 0), (3, .ptr 1 0), (47, .p (.b x47))], [.box (List.map AV.p (J3 b0)), .box [.p (.b true), .p (.b false), .p (.b true), .p (.b false), .p (.b false), .fn JC [] [], .fn J0y [] []]]⟩) = J0O o := by
  unfold J5M at h
  rcases Je h with ⟨h1, h⟩ | ⟨h1, h⟩
  · obtain rfl := sj h
    try simp only [↓Da, Ua, Jr, Jb, J7, J8, JB, *, ↓reduceIte, Nat.reduceEqDiff, Nat.reduceAdd, Nat.reduceLT, Nat.reduceMul]
    rfl
  · try simp only [↓Da, Ua, Jr, Jb, J7, J8, *, ↓reduceIte, Nat.reduceEqDiff, Nat.reduceAdd, Nat.reduceLT, Nat.reduceMul]
    rcases Je h with ⟨h2, h⟩ | ⟨h2, h⟩
    · obtain rfl := sj h
      try simp only [↓Da, Ua, Jr, Jb, J7, J8, JB, *, ↓reduceIte, Nat.reduceEqDiff, Nat.reduceAdd, Nat.reduceLT, Nat.reduceMul]
      rfl
    · try simp only [↓Da, Ua, Jr, Jb, J7, J8, *, ↓reduceIte, Nat.reduceEqDiff, Nat.reduceAdd, Nat.reduceLT, Nat.reduceMul]
      rcases Je h with ⟨h3, h⟩ | ⟨h3, h⟩
      · try simp only [↓Da, Ua, Jr, Jb, J7, J8, *, ↓reduceIte, Nat.reduceEqDiff, Nat.reduceAdd, Nat.reduceLT, Nat.reduceMul]
        have e0 := JhR p h
        exact e0
      · obtain rfl := sj h
        try simp only [↓Da, Ua, Jr, Jb, J7, J8, JB, *, ↓reduceIte, Nat.reduceEqDiff, Nat.reduceAdd, Nat.reduceLT, Nat.reduceMul]
        rfl
def J94 (b0 : Ja) : Option (Bool) :=
  if (decide (b0.Tx < 1)) then
    J5M true b0
  else
    if (decide (b0.Tx > 1073741824)) then
      J5M true b0
    else
      J5M false b0
theorem JhP {b0 : Ja} {o : Bool} (h : J94 b0 = some o) :
    rk (J1 p) J0l 0 [] (X (J1 p) J0c ⟨[(1, .ptr 0 0), (3, .ptr 1 0)], [.box (List.map AV.p (J3 b0)), .box [.p (.b true), .p (.b false), .p (.b true), .p (.b false), .p (.b false), .fn JC [] [], .fn J0y [] []]]⟩) = J0O o := by
  unfold J94 at h
  rcases Je h with ⟨h1, h⟩ | ⟨h1, h⟩
  · try simp only [↓Da, Ua, J0c, Jb, J7, J8, *, ↓reduceIte, Nat.reduceEqDiff, Nat.reduceAdd, Nat.reduceLT, Nat.reduceMul]
    have e0 := J91 p h
    exact e0
  · try simp only [↓Da, Ua, J0c, Jb, J7, J8, *, ↓reduceIte, Nat.reduceEqDiff, Nat.reduceAdd, Nat.reduceLT, Nat.reduceMul]
    rcases Je h with ⟨h2, h⟩ | ⟨h2, h⟩
    · try simp only [↓Da, Ua, J0c, Jb, J7, J8, *, ↓reduceIte, Nat.reduceEqDiff, Nat.reduceAdd, Nat.reduceLT, Nat.reduceMul]
      have e0 := J91 p h
      exact e0
    · try simp only [↓Da, Ua, J0c, Jb, J7, J8, *, ↓reduceIte, Nat.reduceEqDiff, Nat.reduceAdd, Nat.reduceLT, Nat.reduceMul]
      have e0 := J91 p h
      exact e0
def J7O (b0 : Ja) : Option (Bool) :=
  if (decide (((List.length b0.Blob : Nat) : Int) ≤ 8192)) then
    Option.bind (J59 b0) fun r2 =>
    if r2 then
      Option.bind (J4Z b0.Change) fun r6 =>
      some r6
    else
      some false
  else
    some false
theorem JfZ {b0 : Ja} {o : Bool} (h : J7O b0 = some o) :
    rk (J1 p) J0l 0 [] (X (J1 p) JF ⟨[(1, .ptr 0 0), (3, .ptr 1 0)], [.box (List.map AV.p (J3 b0)), .box [.p (.b true), .p (.b true), .p (.b true), .p (.b true), .p (.b false), .fn J1m [] [], .fn J0y [] []]]⟩) = J0O o := by
  unfold J7O at h
  rcases Je h with ⟨h1, h⟩ | ⟨h1, h⟩
  · obtain ⟨r2, h3, h⟩ := bi h
    have f4 := JgC p h3
    try simp only [Nf, Jb, J7, J8] at f4
    try simp only [↓Da, Ua, JF, Jb, J7, J8, *, ↓reduceIte, Nat.reduceEqDiff, Nat.reduceAdd, Nat.reduceLT, Nat.reduceMul]
    rcases Je h with ⟨h5, h⟩ | ⟨h5, h⟩
    · obtain ⟨r6, h7, h⟩ := bi h
      have f8 := JcH p h7
      try simp only [Nf, Jb, J7, J8] at f8
      obtain rfl := sj h
      try simp only [↓Da, Ua, JF, Jb, J7, J8, JB, *, ↓reduceIte, Nat.reduceEqDiff, Nat.reduceAdd, Nat.reduceLT, Nat.reduceMul]
      rfl
    · obtain rfl := sj h
      try simp only [↓Da, Ua, JF, Jb, J7, J8, JB, *, ↓reduceIte, Nat.reduceEqDiff, Nat.reduceAdd, Nat.reduceLT, Nat.reduceMul]
      rfl
  · obtain rfl := sj h
    try simp only [↓Da, Ua, JF, Jb, J7, J8, JB, *, ↓reduceIte, Nat.reduceEqDiff, Nat.reduceAdd, Nat.reduceLT, Nat.reduceMul]
    rfl
def J4I (x47 : Bool) (b0 : Ja) : Option (Bool) :=
  if x47 then
    some false
  else
    if (b0.Blob == []) then
      J7O b0
    else
      some false
theorem J7T {x47 : Bool} {b0 : Ja} {o : Bool} (h : J4I x47 b0 = some o) :
    rk (J1 p) J0l 0 [.bl 0, .sq (.keep [1, 3] JF)] (X (J1 p) Jr ⟨[(1, .ptr 0 0), (3, .ptr 1 0), (47, .p (.b x47))], [.box (List.map AV.p (J3 b0)), .box [.p (.b true), .p (.b true), .p (.b true), .p (.b true), .p (.b false), .fn J1m [] [], .fn J0y [] []]]⟩) = J0O o := by
  unfold J4I at h
  rcases Je h with ⟨h1, h⟩ | ⟨h1, h⟩
  · obtain rfl := sj h
    try simp only [↓Da, Ua, Jr, Jb, J7, J8, JB, *, ↓reduceIte, Nat.reduceEqDiff, Nat.reduceAdd, Nat.reduceLT, Nat.reduceMul]
    rfl
  · try simp only [↓Da, Ua, Jr, Jb, J7, J8, *, ↓reduceIte, Nat.reduceEqDiff, Nat.reduceAdd, Nat.reduceLT, Nat.reduceMul]
    rcases Je h with ⟨h2, h⟩ | ⟨h2, h⟩
    · try simp only [↓Da, Ua, Jr, Jb, J7, J8, *, ↓reduceIte, Nat.reduceEqDiff, Nat.reduceAdd, Nat.reduceLT, Nat.reduceMul]
      have e0 := JfZ p h
      exact e0
    · obtain rfl := sj h
      try simp only [↓Da, Ua, Jr, Jb, J7, J8, JB, *, ↓reduceIte, Nat.reduceEqDiff, Nat.reduceAdd, Nat.reduceLT, Nat.reduceMul]
      rfl
def J7S (b0 : Ja) : Option (Bool) :=
  if (decide (b0.Tx < 1)) then
    J4I true b0
  else
    if (decide (b0.Tx > 1073741824)) then
      J4I true b0
    else
      J4I ((b0.PrevTx : Int) == 0) b0
theorem Jfz {b0 : Ja} {o : Bool} (h : J7S b0 = some o) :
    rk (J1 p) J0l 0 [] (X (J1 p) J0c ⟨[(1, .ptr 0 0), (3, .ptr 1 0)], [.box (List.map AV.p (J3 b0)), .box [.p (.b true), .p (.b true), .p (.b true), .p (.b true), .p (.b false), .fn J1m [] [], .fn J0y [] []]]⟩) = J0O o := by
  unfold J7S at h
  rcases Je h with ⟨h1, h⟩ | ⟨h1, h⟩
  · try simp only [↓Da, Ua, J0c, Jb, J7, J8, *, ↓reduceIte, Nat.reduceEqDiff, Nat.reduceAdd, Nat.reduceLT, Nat.reduceMul]
    have e0 := J7T p h
    exact e0
  · try simp only [↓Da, Ua, J0c, Jb, J7, J8, *, ↓reduceIte, Nat.reduceEqDiff, Nat.reduceAdd, Nat.reduceLT, Nat.reduceMul]
    rcases Je h with ⟨h2, h⟩ | ⟨h2, h⟩
    · try simp only [↓Da, Ua, J0c, Jb, J7, J8, *, ↓reduceIte, Nat.reduceEqDiff, Nat.reduceAdd, Nat.reduceLT, Nat.reduceMul]
      have e0 := J7T p h
      exact e0
    · try simp only [↓Da, Ua, J0c, Jb, J7, J8, *, ↓reduceIte, Nat.reduceEqDiff, Nat.reduceAdd, Nat.reduceLT, Nat.reduceMul]
      have e0 := J7T p h
      exact e0
def J7X (b0 : Ja) : Option (Bool) :=
  if (decide (((List.length b0.Blob : Nat) : Int) ≤ 8192)) then
    Option.bind (J26 b0) fun r2 =>
    if r2 then
      Option.bind (J67 b0.Change) fun r6 =>
      some r6
    else
      some false
  else
    some false
theorem Jfu {b0 : Ja} {o : Bool} (h : J7X b0 = some o) :
    rk (J1 p) J0l 0 [] (X (J1 p) JF ⟨[(1, .ptr 0 0), (3, .ptr 1 0)], [.box (List.map AV.p (J3 b0)), .box [.p (.b true), .p (.b true), .p (.b false), .p (.b false), .p (.b false), .fn JC [] [], .fn J0j [] []]]⟩) = J0O o := by
  unfold J7X at h
  rcases Je h with ⟨h1, h⟩ | ⟨h1, h⟩
  · obtain ⟨r2, h3, h⟩ := bi h
    have f4 := J6l p h3
    try simp only [Nf, Jb, J7, J8] at f4
    try simp only [↓Da, Ua, JF, Jb, J7, J8, *, ↓reduceIte, Nat.reduceEqDiff, Nat.reduceAdd, Nat.reduceLT, Nat.reduceMul]
    rcases Je h with ⟨h5, h⟩ | ⟨h5, h⟩
    · obtain ⟨r6, h7, h⟩ := bi h
      have f8 := Jey p h7
      try simp only [Nf, Jb, J7, J8] at f8
      obtain rfl := sj h
      try simp only [↓Da, Ua, JF, Jb, J7, J8, JB, *, ↓reduceIte, Nat.reduceEqDiff, Nat.reduceAdd, Nat.reduceLT, Nat.reduceMul]
      rfl
    · obtain rfl := sj h
      try simp only [↓Da, Ua, JF, Jb, J7, J8, JB, *, ↓reduceIte, Nat.reduceEqDiff, Nat.reduceAdd, Nat.reduceLT, Nat.reduceMul]
      rfl
  · obtain rfl := sj h
    try simp only [↓Da, Ua, JF, Jb, J7, J8, JB, *, ↓reduceIte, Nat.reduceEqDiff, Nat.reduceAdd, Nat.reduceLT, Nat.reduceMul]
    rfl
def J4G (x47 : Bool) (b0 : Ja) : Option (Bool) :=
  if x47 then
    some false
  else
    if ((b0.PrevPage : Int) != 0) then
      some false
    else
      if ((b0.Ref : Int) != 0) then
        some false
      else
        if (b0.Blob == []) then
          J7X b0
        else
          some false
theorem J7L {x47 : Bool} {b0 : Ja} {o : Bool} (h : J4G x47 b0 = some o) :
    rk (J1 p) J0l 0 [.bl 0, .sq (.keep [1, 3] JF)] (X (J1 p) Jr ⟨[(1, .ptr 0 0), (3, .ptr 1 0), (47, .p (.b x47))], [.box (List.map AV.p (J3 b0)), .box [.p (.b true), .p (.b true), .p (.b false), .p (.b false), .p (.b false), .fn JC [] [], .fn J0j [] []]]⟩) = J0O o := by
  unfold J4G at h
  rcases Je h with ⟨h1, h⟩ | ⟨h1, h⟩
  · obtain rfl := sj h
    try simp only [↓Da, Ua, Jr, Jb, J7, J8, JB, *, ↓reduceIte, Nat.reduceEqDiff, Nat.reduceAdd, Nat.reduceLT, Nat.reduceMul]
    rfl
  · try simp only [↓Da, Ua, Jr, Jb, J7, J8, *, ↓reduceIte, Nat.reduceEqDiff, Nat.reduceAdd, Nat.reduceLT, Nat.reduceMul]
    rcases Je h with ⟨h2, h⟩ | ⟨h2, h⟩
    · obtain rfl := sj h
      try simp only [↓Da, Ua, Jr, Jb, J7, J8, JB, *, ↓reduceIte, Nat.reduceEqDiff, Nat.reduceAdd, Nat.reduceLT, Nat.reduceMul]
      rfl
    · try simp only [↓Da, Ua, Jr, Jb, J7, J8, *, ↓reduceIte, Nat.reduceEqDiff, Nat.reduceAdd, Nat.reduceLT, Nat.reduceMul]
      rcases Je h with ⟨h3, h⟩ | ⟨h3, h⟩
      · obtain rfl := sj h
        try simp only [↓Da, Ua, Jr, Jb, J7, J8, JB, *, ↓reduceIte, Nat.reduceEqDiff, Nat.reduceAdd, Nat.reduceLT, Nat.reduceMul]
        rfl
      · try simp only [↓Da, Ua, Jr, Jb, J7, J8, *, ↓reduceIte, Nat.reduceEqDiff, Nat.reduceAdd, Nat.reduceLT, Nat.reduceMul]
        rcases Je h with ⟨h4, h⟩ | ⟨h4, h⟩
        · try simp only [↓Da, Ua, Jr, Jb, J7, J8, *, ↓reduceIte, Nat.reduceEqDiff, Nat.reduceAdd, Nat.reduceLT, Nat.reduceMul]
          have e0 := Jfu p h
          exact e0
        · obtain rfl := sj h
          try simp only [↓Da, Ua, Jr, Jb, J7, J8, JB, *, ↓reduceIte, Nat.reduceEqDiff, Nat.reduceAdd, Nat.reduceLT, Nat.reduceMul]
          rfl
def J4L (b0 : Ja) : Option (Bool) :=
  if (decide (b0.Tx < 1)) then
    J4G true b0
  else
    if (decide (b0.Tx > 1073741824)) then
      J4G true b0
    else
      J4G ((b0.PrevTx : Int) == 0) b0
theorem J7U {b0 : Ja} {o : Bool} (h : J4L b0 = some o) :
    rk (J1 p) J0l 0 [] (X (J1 p) J0c ⟨[(1, .ptr 0 0), (3, .ptr 1 0)], [.box (List.map AV.p (J3 b0)), .box [.p (.b true), .p (.b true), .p (.b false), .p (.b false), .p (.b false), .fn JC [] [], .fn J0j [] []]]⟩) = J0O o := by
  unfold J4L at h
  rcases Je h with ⟨h1, h⟩ | ⟨h1, h⟩
  · try simp only [↓Da, Ua, J0c, Jb, J7, J8, *, ↓reduceIte, Nat.reduceEqDiff, Nat.reduceAdd, Nat.reduceLT, Nat.reduceMul]
    have e0 := J7L p h
    exact e0
  · try simp only [↓Da, Ua, J0c, Jb, J7, J8, *, ↓reduceIte, Nat.reduceEqDiff, Nat.reduceAdd, Nat.reduceLT, Nat.reduceMul]
    rcases Je h with ⟨h2, h⟩ | ⟨h2, h⟩
    · try simp only [↓Da, Ua, J0c, Jb, J7, J8, *, ↓reduceIte, Nat.reduceEqDiff, Nat.reduceAdd, Nat.reduceLT, Nat.reduceMul]
      have e0 := J7L p h
      exact e0
    · try simp only [↓Da, Ua, J0c, Jb, J7, J8, *, ↓reduceIte, Nat.reduceEqDiff, Nat.reduceAdd, Nat.reduceLT, Nat.reduceMul]
      have e0 := J7L p h
      exact e0
def J7W (b0 : Ja) : Option (Bool) :=
  if (decide (((List.length b0.Blob : Nat) : Int) ≤ 8192)) then
    Option.bind (J26 b0) fun r2 =>
    if r2 then
      Option.bind (J67 b0.Change) fun r6 =>
      some r6
    else
      some false
  else
    some false
theorem JfB {b0 : Ja} {o : Bool} (h : J7W b0 = some o) :
    rk (J1 p) J0l 0 [] (X (J1 p) JF ⟨[(1, .ptr 0 0), (3, .ptr 1 0)], [.box (List.map AV.p (J3 b0)), .box [.p (.b false), .p (.b false), .p (.b false), .p (.b false), .p (.b true), .fn JC [] [], .fn J0j [] []]]⟩) = J0O o := by
  unfold J7W at h
  rcases Je h with ⟨h1, h⟩ | ⟨h1, h⟩
  · obtain ⟨r2, h3, h⟩ := bi h
    have f4 := J6l p h3
    try simp only [Nf, Jb, J7, J8] at f4
    try simp only [↓Da, Ua, JF, Jb, J7, J8, *, ↓reduceIte, Nat.reduceEqDiff, Nat.reduceAdd, Nat.reduceLT, Nat.reduceMul]
    rcases Je h with ⟨h5, h⟩ | ⟨h5, h⟩
    · obtain ⟨r6, h7, h⟩ := bi h
      have f8 := Jey p h7
      try simp only [Nf, Jb, J7, J8] at f8
      obtain rfl := sj h
      try simp only [↓Da, Ua, JF, Jb, J7, J8, JB, *, ↓reduceIte, Nat.reduceEqDiff, Nat.reduceAdd, Nat.reduceLT, Nat.reduceMul]
      rfl
    · obtain rfl := sj h
      try simp only [↓Da, Ua, JF, Jb, J7, J8, JB, *, ↓reduceIte, Nat.reduceEqDiff, Nat.reduceAdd, Nat.reduceLT, Nat.reduceMul]
      rfl
  · obtain rfl := sj h
    try simp only [↓Da, Ua, JF, Jb, J7, J8, JB, *, ↓reduceIte, Nat.reduceEqDiff, Nat.reduceAdd, Nat.reduceLT, Nat.reduceMul]
    rfl
def J7P (x47 : Bool) (b0 : Ja) : Option (Bool) :=
  if x47 then
    some false
  else
    if ((b0.Tx : Int) != 0) then
      some false
    else
      if ((b0.PrevTx : Int) != 0) then
        some false
      else
        if ((b0.PrevPage : Int) != 0) then
          some false
        else
          if ((b0.Ref : Int) != 0) then
            some false
          else
            J7W b0
theorem JfX {x47 : Bool} {b0 : Ja} {o : Bool} (h : J7P x47 b0 = some o) :
    rk (J1 p) J0l 0 [.bl 0, .sq (.keep [1, 3] JF)] (X (J1 p) Jr ⟨[(1, .ptr 0 0), (3, .ptr 1 0), (47, .p (.b x47))], [.box (List.map AV.p (J3 b0)), .box [.p (.b false), .p (.b false), .p (.b false), .p (.b false), .p (.b true), .fn JC [] [], .fn J0j [] []]]⟩) = J0O o := by
  unfold J7P at h
  rcases Je h with ⟨h1, h⟩ | ⟨h1, h⟩
  · obtain rfl := sj h
    try simp only [↓Da, Ua, Jr, Jb, J7, J8, JB, *, ↓reduceIte, Nat.reduceEqDiff, Nat.reduceAdd, Nat.reduceLT, Nat.reduceMul]
    rfl
  · try simp only [↓Da, Ua, Jr, Jb, J7, J8, *, ↓reduceIte, Nat.reduceEqDiff, Nat.reduceAdd, Nat.reduceLT, Nat.reduceMul]
    rcases Je h with ⟨h2, h⟩ | ⟨h2, h⟩
    · obtain rfl := sj h
      try simp only [↓Da, Ua, Jr, Jb, J7, J8, JB, *, ↓reduceIte, Nat.reduceEqDiff, Nat.reduceAdd, Nat.reduceLT, Nat.reduceMul]
      rfl
    · try simp only [↓Da, Ua, Jr, Jb, J7, J8, *, ↓reduceIte, Nat.reduceEqDiff, Nat.reduceAdd, Nat.reduceLT, Nat.reduceMul]
      rcases Je h with ⟨h3, h⟩ | ⟨h3, h⟩
      · obtain rfl := sj h
        try simp only [↓Da, Ua, Jr, Jb, J7, J8, JB, *, ↓reduceIte, Nat.reduceEqDiff, Nat.reduceAdd, Nat.reduceLT, Nat.reduceMul]
        rfl
      · try simp only [↓Da, Ua, Jr, Jb, J7, J8, *, ↓reduceIte, Nat.reduceEqDiff, Nat.reduceAdd, Nat.reduceLT, Nat.reduceMul]
        rcases Je h with ⟨h4, h⟩ | ⟨h4, h⟩
        · obtain rfl := sj h
          try simp only [↓Da, Ua, Jr, Jb, J7, J8, JB, *, ↓reduceIte, Nat.reduceEqDiff, Nat.reduceAdd, Nat.reduceLT, Nat.reduceMul]
          rfl
        · try simp only [↓Da, Ua, Jr, Jb, J7, J8, *, ↓reduceIte, Nat.reduceEqDiff, Nat.reduceAdd, Nat.reduceLT, Nat.reduceMul]
          rcases Je h with ⟨h5, h⟩ | ⟨h5, h⟩
          · obtain rfl := sj h
            try simp only [↓Da, Ua, Jr, Jb, J7, J8, JB, *, ↓reduceIte, Nat.reduceEqDiff, Nat.reduceAdd, Nat.reduceLT, Nat.reduceMul]
            rfl
          · try simp only [↓Da, Ua, Jr, Jb, J7, J8, *, ↓reduceIte, Nat.reduceEqDiff, Nat.reduceAdd, Nat.reduceLT, Nat.reduceMul]
            have e0 := JfB p h
            exact e0
def J62 (b0 : Ja) : Option (Bool) :=
  J7P false b0
theorem Jar {b0 : Ja} {o : Bool} (h : J62 b0 = some o) :
    rk (J1 p) J0l 0 [] (X (J1 p) J0c ⟨[(1, .ptr 0 0), (3, .ptr 1 0)], [.box (List.map AV.p (J3 b0)), .box [.p (.b false), .p (.b false), .p (.b false), .p (.b false), .p (.b true), .fn JC [] [], .fn J0j [] []]]⟩) = J0O o := by
  unfold J62 at h
  try simp only [↓Da, Ua, J0c, ↓reduceIte, Nat.reduceEqDiff, Nat.reduceAdd, Nat.reduceLT, Nat.reduceMul]
  have e0 := JfX p h
  exact e0
def J5W (b0 : Ja) : Option (Bool) :=
  if (decide (((List.length b0.Blob : Nat) : Int) ≤ 8192)) then
    Option.bind (J26 b0) fun r2 =>
    if r2 then
      Option.bind (J43 b0.Change) fun r6 =>
      some r6
    else
      some false
  else
    some false
theorem JfQ {b0 : Ja} {o : Bool} (h : J5W b0 = some o) :
    rk (J1 p) J0l 0 [] (X (J1 p) JF ⟨[(1, .ptr 0 0), (3, .ptr 1 0)], [.box (List.map AV.p (J3 b0)), .box [.p (.b false), .p (.b false), .p (.b false), .p (.b true), .p (.b false), .fn JC [] [], .fn J1k [] []]]⟩) = J0O o := by
  unfold J5W at h
  rcases Je h with ⟨h1, h⟩ | ⟨h1, h⟩
  · obtain ⟨r2, h3, h⟩ := bi h
    have f4 := J6l p h3
    try simp only [Nf, Jb, J7, J8] at f4
    try simp only [↓Da, Ua, JF, Jb, J7, J8, *, ↓reduceIte, Nat.reduceEqDiff, Nat.reduceAdd, Nat.reduceLT, Nat.reduceMul]
    rcases Je h with ⟨h5, h⟩ | ⟨h5, h⟩
    · obtain ⟨r6, h7, h⟩ := bi h
      have f8 := Jgu p h7
      try simp only [Nf, Jb, J7, J8] at f8
      obtain rfl := sj h
      try simp only [↓Da, Ua, JF, Jb, J7, J8, JB, *, ↓reduceIte, Nat.reduceEqDiff, Nat.reduceAdd, Nat.reduceLT, Nat.reduceMul]
      rfl
    · obtain rfl := sj h
      try simp only [↓Da, Ua, JF, Jb, J7, J8, JB, *, ↓reduceIte, Nat.reduceEqDiff, Nat.reduceAdd, Nat.reduceLT, Nat.reduceMul]
      rfl
  · obtain rfl := sj h
    try simp only [↓Da, Ua, JF, Jb, J7, J8, JB, *, ↓reduceIte, Nat.reduceEqDiff, Nat.reduceAdd, Nat.reduceLT, Nat.reduceMul]
    rfl
def J5Z (x47 : Bool) (b0 : Ja) : Option (Bool) :=
  if x47 then
    some false
  else
    if ((b0.Tx : Int) != 0) then
      some false
    else
      if ((b0.PrevTx : Int) != 0) then
        some false
      else
        if ((b0.PrevPage : Int) != 0) then
          some false
        else
          if (b0.Blob == []) then
            J5W b0
          else
            some false
theorem JfK {x47 : Bool} {b0 : Ja} {o : Bool} (h : J5Z x47 b0 = some o) :
    rk (J1 p) J0l 0 [.bl 0, .sq (.keep [1, 3] JF)] (X (J1 p) Jr ⟨[(1, .ptr 0 0), (3, .ptr 1 0), (47, .p (.b x47))], [.box (List.map AV.p (J3 b0)), .box [.p (.b false), .p (.b false), .p (.b false), .p (.b true), .p (.b false), .fn JC [] [], .fn J1k [] []]]⟩) = J0O o := by
  unfold J5Z at h
  rcases Je h with ⟨h1, h⟩ | ⟨h1, h⟩
  · obtain rfl := sj h
    try simp only [↓Da, Ua, Jr, Jb, J7, J8, JB, *, ↓reduceIte, Nat.reduceEqDiff, Nat.reduceAdd, Nat.reduceLT, Nat.reduceMul]
    rfl
  · try simp only [↓Da, Ua, Jr, Jb, J7, J8, *, ↓reduceIte, Nat.reduceEqDiff, Nat.reduceAdd, Nat.reduceLT, Nat.reduceMul]
    rcases Je h with ⟨h2, h⟩ | ⟨h2, h⟩
    · obtain rfl := sj h
      try simp only [↓Da, Ua, Jr, Jb, J7, J8, JB, *, ↓reduceIte, Nat.reduceEqDiff, Nat.reduceAdd, Nat.reduceLT, Nat.reduceMul]
      rfl
    · try simp only [↓Da, Ua, Jr, Jb, J7, J8, *, ↓reduceIte, Nat.reduceEqDiff, Nat.reduceAdd, Nat.reduceLT, Nat.reduceMul]
      rcases Je h with ⟨h3, h⟩ | ⟨h3, h⟩
      · obtain rfl := sj h
        try simp only [↓Da, Ua, Jr, Jb, J7, J8, JB, *, ↓reduceIte, Nat.reduceEqDiff, Nat.reduceAdd, Nat.reduceLT, Nat.reduceMul]
        rfl
      · try simp only [↓Da, Ua, Jr, Jb, J7, J8, *, ↓reduceIte, Nat.reduceEqDiff, Nat.reduceAdd, Nat.reduceLT, Nat.reduceMul]
        rcases Je h with ⟨h4, h⟩ | ⟨h4, h⟩
        · obtain rfl := sj h
          try simp only [↓Da, Ua, Jr, Jb, J7, J8, JB, *, ↓reduceIte, Nat.reduceEqDiff, Nat.reduceAdd, Nat.reduceLT, Nat.reduceMul]
          rfl
        · try simp only [↓Da, Ua, Jr, Jb, J7, J8, *, ↓reduceIte, Nat.reduceEqDiff, Nat.reduceAdd, Nat.reduceLT, Nat.reduceMul]
          rcases Je h with ⟨h5, h⟩ | ⟨h5, h⟩
          · try simp only [↓Da, Ua, Jr, Jb, J7, J8, *, ↓reduceIte, Nat.reduceEqDiff, Nat.reduceAdd, Nat.reduceLT, Nat.reduceMul]
            have e0 := JfQ p h
            exact e0
          · obtain rfl := sj h
            try simp only [↓Da, Ua, Jr, Jb, J7, J8, JB, *, ↓reduceIte, Nat.reduceEqDiff, Nat.reduceAdd, Nat.reduceLT, Nat.reduceMul]
            rfl
def J5U (b0 : Ja) : Option (Bool) :=
  J5Z false b0
theorem Jg0 {b0 : Ja} {o : Bool} (h : J5U b0 = some o) :
    rk (J1 p) J0l 0 [] (X (J1 p) J0c ⟨[(1, .ptr 0 0), (3, .ptr 1 0)], [.box (List.map AV.p (J3 b0)), .box [.p (.b false), .p (.b false), .p (.b false), .p (.b true), .p (.b false), .fn JC [] [], .fn J1k [] []]]⟩) = J0O o := by
  unfold J5U at h
  try simp only [↓Da, Ua, J0c, ↓reduceIte, Nat.reduceEqDiff, Nat.reduceAdd, Nat.reduceLT, Nat.reduceMul]
  have e0 := JfK p h
  exact e0
def J4B (x0 : Ja) : Option (Bool) :=
  if (decide (x0.LSN < 1)) then
    some false
  else
    if (decide (x0.LSN > 1099511627776)) then
      some false
    else
      if (decide (x0.Kind < 1)) then
        some false
      else
        if (decide (x0.Kind > 8)) then
          some false
        else
          Option.bind (J39 x0.PrevTx x0) fun r5 =>
          if r5 then
            Option.bind (J39 x0.PrevPage x0) fun r9 =>
            if r9 then
              Option.bind (J39 x0.Ref x0) fun r13 =>
              if r13 then
                Option.bind (J5n) fun r17 =>
                if ((x0.Kind : Int) == 1) then
                  J94 x0
                else
                  if ((x0.Kind : Int) == 2) then
                    J7S x0
                  else
                    if ((x0.Kind : Int) == 3) then
                      J4L x0
                    else
                      if ((x0.Kind : Int) == 4) then
                        J4L x0
                      else
                        if ((x0.Kind : Int) == 5) then
                          J4L x0
                        else
                          if ((x0.Kind : Int) == 6) then
                            J62 x0
                          else
                            if ((x0.Kind : Int) == 7) then
                              J5U x0
                            else
                              if ((x0.Kind : Int) == 8) then
                                J62 x0
                              else
                                none
              else
                some false
            else
              some false
          else
            some false
theorem Jg1 {x0 : Ja} {o : Bool} (h : J4B x0 = some o) :
    rk (J1 p) J0l 0 [] (X (J1 p) JN ⟨[(0, .data (J3 x0))], []⟩) = J0O o := by
  unfold J4B at h
  rcases Je h with ⟨h1, h⟩ | ⟨h1, h⟩
  · obtain rfl := sj h
    try simp only [↓Da, Ua, Ra, JN, Jb, J7, J8, JB, *, ↓reduceIte, Nat.reduceEqDiff, Nat.reduceAdd, Nat.reduceLT, Nat.reduceMul, Nat.reduceBEq]
    rfl
  · try simp only [↓Da, Ua, Ra, JN, Jb, J7, J8, *, ↓reduceIte, Nat.reduceEqDiff, Nat.reduceAdd, Nat.reduceLT, Nat.reduceMul, Nat.reduceBEq]
    rcases Je h with ⟨h2, h⟩ | ⟨h2, h⟩
    · obtain rfl := sj h
      try simp only [↓Da, Ua, Ra, JN, Jb, J7, J8, JB, *, ↓reduceIte, Nat.reduceEqDiff, Nat.reduceAdd, Nat.reduceLT, Nat.reduceMul, Nat.reduceBEq]
      rfl
    · try simp only [↓Da, Ua, Ra, JN, Jb, J7, J8, *, ↓reduceIte, Nat.reduceEqDiff, Nat.reduceAdd, Nat.reduceLT, Nat.reduceMul, Nat.reduceBEq]
      rcases Je h with ⟨h3, h⟩ | ⟨h3, h⟩
      · obtain rfl := sj h
        try simp only [↓Da, Ua, Ra, JN, Jb, J7, J8, JB, *, ↓reduceIte, Nat.reduceEqDiff, Nat.reduceAdd, Nat.reduceLT, Nat.reduceMul, Nat.reduceBEq]
        rfl
      · try simp only [↓Da, Ua, Ra, JN, Jb, J7, J8, *, ↓reduceIte, Nat.reduceEqDiff, Nat.reduceAdd, Nat.reduceLT, Nat.reduceMul, Nat.reduceBEq]
        rcases Je h with ⟨h4, h⟩ | ⟨h4, h⟩
        · obtain rfl := sj h
          try simp only [↓Da, Ua, Ra, JN, Jb, J7, J8, JB, *, ↓reduceIte, Nat.reduceEqDiff, Nat.reduceAdd, Nat.reduceLT, Nat.reduceMul, Nat.reduceBEq]
          rfl
        · obtain ⟨r5, h6, h⟩ := bi h
          have f7 := J9n p h6
          try simp only [Nf, Jb, J7, J8] at f7
          try simp only [↓Da, Ua, Ra, JN, Jb, J7, J8, *, ↓reduceIte, Nat.reduceEqDiff, Nat.reduceAdd, Nat.reduceLT, Nat.reduceMul, Nat.reduceBEq]
          rcases Je h with ⟨h8, h⟩ | ⟨h8, h⟩
          · obtain ⟨r9, h10, h⟩ := bi h
            have f11 := J9n p h10
            try simp only [Nf, Jb, J7, J8] at f11
            try simp only [↓Da, Ua, Ra, JN, Jb, J7, J8, *, ↓reduceIte, Nat.reduceEqDiff, Nat.reduceAdd, Nat.reduceLT, Nat.reduceMul, Nat.reduceBEq]
            rcases Je h with ⟨h12, h⟩ | ⟨h12, h⟩
            · obtain ⟨r13, h14, h⟩ := bi h
              have f15 := J9n p h14
              try simp only [Nf, Jb, J7, J8] at f15
              try simp only [↓Da, Ua, Ra, JN, Jb, J7, J8, *, ↓reduceIte, Nat.reduceEqDiff, Nat.reduceAdd, Nat.reduceLT, Nat.reduceMul, Nat.reduceBEq]
              rcases Je h with ⟨h16, h⟩ | ⟨h16, h⟩
              · obtain ⟨r17, h18, h⟩ := bi h
                have f19 := Jkc p h18
                try simp only [Nf, Jb, J7, J8] at f19
                have f20 : ∀ ws k new s, Jm ((Jx (AF (J1 p)) J4v ([], ws) k new).reads s) = [] := J12 rfl
                try simp only [Nf, Jb, J7, J8] at f20
                try simp only [↓Da, Ua, Ra, JN, Jb, J7, J8, *, ↓reduceIte, Nat.reduceEqDiff, Nat.reduceAdd, Nat.reduceLT, Nat.reduceMul, Nat.reduceBEq]
                rcases Je h with ⟨h21, h⟩ | ⟨h21, h⟩
                · have h21n : ((x0.Kind : Int) != 1) = false := by rw [bne, h21]; rfl
                  have h21k : x0.Kind = 1 := by simpa using h21
                  have f22 : (0 ≤ (x0.Kind : Int) ∧ (x0.Kind : Int) < ((9 : Nat) : Int)) = True := by rw [h21k]; decide
                  have f23 : Int.toNat x0.Kind * 7 = 7 := by rw [h21k]; rfl
                  clear h21k
                  try simp only [↓Da, Ua, Ra, JN, Jb, J7, J8, *, ↓reduceIte, Nat.reduceEqDiff, Nat.reduceAdd, Nat.reduceLT, Nat.reduceMul, Nat.reduceBEq]
                  have e0 := JhP p h
                  exact e0
                · have h21n : ((x0.Kind : Int) != 1) = true := by rw [bne, h21]; rfl
                  try simp only [↓Da, Ua, Ra, JN, Jb, J7, J8, *, ↓reduceIte, Nat.reduceEqDiff, Nat.reduceAdd, Nat.reduceLT, Nat.reduceMul, Nat.reduceBEq]
                  rcases Je h with ⟨h24, h⟩ | ⟨h24, h⟩
                  · have h24n : ((x0.Kind : Int) != 2) = false := by rw [bne, h24]; rfl
                    have h24k : x0.Kind = 2 := by simpa using h24
                    have f25 : (0 ≤ (x0.Kind : Int) ∧ (x0.Kind : Int) < ((9 : Nat) : Int)) = True := by rw [h24k]; decide
                    have f26 : Int.toNat x0.Kind * 7 = 14 := by rw [h24k]; rfl
                    clear h24k
                    try simp only [↓Da, Ua, Ra, JN, Jb, J7, J8, *, ↓reduceIte, Nat.reduceEqDiff, Nat.reduceAdd, Nat.reduceLT, Nat.reduceMul, Nat.reduceBEq]
                    have e0 := Jfz p h
                    exact e0
                  · have h24n : ((x0.Kind : Int) != 2) = true := by rw [bne, h24]; rfl
                    try simp only [↓Da, Ua, Ra, JN, Jb, J7, J8, *, ↓reduceIte, Nat.reduceEqDiff, Nat.reduceAdd, Nat.reduceLT, Nat.reduceMul, Nat.reduceBEq]
                    rcases Je h with ⟨h27, h⟩ | ⟨h27, h⟩
                    · have h27n : ((x0.Kind : Int) != 3) = false := by rw [bne, h27]; rfl
                      have h27k : x0.Kind = 3 := by simpa using h27
                      have f28 : (0 ≤ (x0.Kind : Int) ∧ (x0.Kind : Int) < ((9 : Nat) : Int)) = True := by rw [h27k]; decide
                      have f29 : Int.toNat x0.Kind * 7 = 21 := by rw [h27k]; rfl
                      clear h27k
                      try simp only [↓Da, Ua, Ra, JN, Jb, J7, J8, *, ↓reduceIte, Nat.reduceEqDiff, Nat.reduceAdd, Nat.reduceLT, Nat.reduceMul, Nat.reduceBEq]
                      have e0 := J7U p h
                      exact e0
                    · have h27n : ((x0.Kind : Int) != 3) = true := by rw [bne, h27]; rfl
                      try simp only [↓Da, Ua, Ra, JN, Jb, J7, J8, *, ↓reduceIte, Nat.reduceEqDiff, Nat.reduceAdd, Nat.reduceLT, Nat.reduceMul, Nat.reduceBEq]
                      rcases Je h with ⟨h30, h⟩ | ⟨h30, h⟩
                      · have h30n : ((x0.Kind : Int) != 4) = false := by rw [bne, h30]; rfl
                        have h30k : x0.Kind = 4 := by simpa using h30
                        have f31 : (0 ≤ (x0.Kind : Int) ∧ (x0.Kind : Int) < ((9 : Nat) : Int)) = True := by rw [h30k]; decide
                        have f32 : Int.toNat x0.Kind * 7 = 28 := by rw [h30k]; rfl
                        clear h30k
                        try simp only [↓Da, Ua, Ra, JN, Jb, J7, J8, *, ↓reduceIte, Nat.reduceEqDiff, Nat.reduceAdd, Nat.reduceLT, Nat.reduceMul, Nat.reduceBEq]
                        have e0 := J7U p h
                        exact e0
                      · have h30n : ((x0.Kind : Int) != 4) = true := by rw [bne, h30]; rfl
                        try simp only [↓Da, Ua, Ra, JN, Jb, J7, J8, *, ↓reduceIte, Nat.reduceEqDiff, Nat.reduceAdd, Nat.reduceLT, Nat.reduceMul, Nat.reduceBEq]
                        rcases Je h with ⟨h33, h⟩ | ⟨h33, h⟩
                        · have h33n : ((x0.Kind : Int) != 5) = false := by rw [bne, h33]; rfl
                          have h33k : x0.Kind = 5 := by simpa using h33
                          have f34 : (0 ≤ (x0.Kind : Int) ∧ (x0.Kind : Int) < ((9 : Nat) : Int)) = True := by rw [h33k]; decide
                          have f35 : Int.toNat x0.Kind * 7 = 35 := by rw [h33k]; rfl
                          clear h33k
                          try simp only [↓Da, Ua, Ra, JN, Jb, J7, J8, *, ↓reduceIte, Nat.reduceEqDiff, Nat.reduceAdd, Nat.reduceLT, Nat.reduceMul, Nat.reduceBEq]
                          have e0 := J7U p h
                          exact e0
                        · have h33n : ((x0.Kind : Int) != 5) = true := by rw [bne, h33]; rfl
                          try simp only [↓Da, Ua, Ra, JN, Jb, J7, J8, *, ↓reduceIte, Nat.reduceEqDiff, Nat.reduceAdd, Nat.reduceLT, Nat.reduceMul, Nat.reduceBEq]
                          rcases Je h with ⟨h36, h⟩ | ⟨h36, h⟩
                          · have h36n : ((x0.Kind : Int) != 6) = false := by rw [bne, h36]; rfl
                            have h36k : x0.Kind = 6 := by simpa using h36
                            have f37 : (0 ≤ (x0.Kind : Int) ∧ (x0.Kind : Int) < ((9 : Nat) : Int)) = True := by rw [h36k]; decide
                            have f38 : Int.toNat x0.Kind * 7 = 42 := by rw [h36k]; rfl
                            clear h36k
                            try simp only [↓Da, Ua, Ra, JN, Jb, J7, J8, *, ↓reduceIte, Nat.reduceEqDiff, Nat.reduceAdd, Nat.reduceLT, Nat.reduceMul, Nat.reduceBEq]
                            have e0 := Jar p h
                            exact e0
                          · have h36n : ((x0.Kind : Int) != 6) = true := by rw [bne, h36]; rfl
                            try simp only [↓Da, Ua, Ra, JN, Jb, J7, J8, *, ↓reduceIte, Nat.reduceEqDiff, Nat.reduceAdd, Nat.reduceLT, Nat.reduceMul, Nat.reduceBEq]
                            rcases Je h with ⟨h39, h⟩ | ⟨h39, h⟩
                            · have h39n : ((x0.Kind : Int) != 7) = false := by rw [bne, h39]; rfl
                              have h39k : x0.Kind = 7 := by simpa using h39
                              have f40 : (0 ≤ (x0.Kind : Int) ∧ (x0.Kind : Int) < ((9 : Nat) : Int)) = True := by rw [h39k]; decide
                              have f41 : Int.toNat x0.Kind * 7 = 49 := by rw [h39k]; rfl
                              clear h39k
                              try simp only [↓Da, Ua, Ra, JN, Jb, J7, J8, *, ↓reduceIte, Nat.reduceEqDiff, Nat.reduceAdd, Nat.reduceLT, Nat.reduceMul, Nat.reduceBEq]
                              have e0 := Jg0 p h
                              exact e0
                            · have h39n : ((x0.Kind : Int) != 7) = true := by rw [bne, h39]; rfl
                              try simp only [↓Da, Ua, Ra, JN, Jb, J7, J8, *, ↓reduceIte, Nat.reduceEqDiff, Nat.reduceAdd, Nat.reduceLT, Nat.reduceMul, Nat.reduceBEq]
                              rcases Je h with ⟨h42, h⟩ | ⟨h42, h⟩
                              · have h42n : ((x0.Kind : Int) != 8) = false := by rw [bne, h42]; rfl
                                have h42k : x0.Kind = 8 := by simpa using h42
                                have f43 : (0 ≤ (x0.Kind : Int) ∧ (x0.Kind : Int) < ((9 : Nat) : Int)) = True := by rw [h42k]; decide
                                have f44 : Int.toNat x0.Kind * 7 = 56 := by rw [h42k]; rfl
                                clear h42k
                                try simp only [↓Da, Ua, Ra, JN, Jb, J7, J8, *, ↓reduceIte, Nat.reduceEqDiff, Nat.reduceAdd, Nat.reduceLT, Nat.reduceMul, Nat.reduceBEq]
                                have e0 := Jar p h
                                exact e0
                              · have h42n : ((x0.Kind : Int) != 8) = true := by rw [bne, h42]; rfl
                                cases h
              · obtain rfl := sj h
                try simp only [↓Da, Ua, Ra, JN, Jb, J7, J8, JB, *, ↓reduceIte, Nat.reduceEqDiff, Nat.reduceAdd, Nat.reduceLT, Nat.reduceMul, Nat.reduceBEq]
                rfl
            · obtain rfl := sj h
              try simp only [↓Da, Ua, Ra, JN, Jb, J7, J8, JB, *, ↓reduceIte, Nat.reduceEqDiff, Nat.reduceAdd, Nat.reduceLT, Nat.reduceMul, Nat.reduceBEq]
              rfl
          · obtain rfl := sj h
            try simp only [↓Da, Ua, Ra, JN, Jb, J7, J8, JB, *, ↓reduceIte, Nat.reduceEqDiff, Nat.reduceAdd, Nat.reduceLT, Nat.reduceMul, Nat.reduceBEq]
            rfl
theorem Jk6 {x0 : Ja} {o : Bool} (h : J4B x0 = some o) : AF (J1 p) J5o [.data (J3 x0)] [] = J0O o :=
  (J14 (J1 p) (Jkh p) rfl).trans (Jg1 p h)
theorem Jkn {x0 : Ja} {o : Bool} (h : J4B x0 = some o) : ∀ ws new st, (Jx (AF (J1 p)) J5o ([.data (J3 x0)], ws) 0 new).run st = some ⟨.p (.b o), ws⟩ := JW rfl (Jk6 p h) rfl
end
end Go.Am
end
section
namespace Go.Am
set_option maxRecDepth 8000
set_option maxHeartbeats 4000000
set_option linter.unusedSimpArgs false
set_option linter.unusedVariables false
noncomputable section
variable (p : FuncId → Option (List AV → List Blk → Option Res))
def JdZ  (r : T_api_Page × Int) : Option Res := some (.tup [.data (J4 r.1), .p (.i .i64 r.2)], [])
def J0M (x0 : List UInt8) : Option (T_api_Page × Int) :=
  if ((((List.length x0 : Nat) : Int) : Int) != 256) then
    some ((⟨0, 0, (Vector.replicate 16 (⟨false, []⟩ : J5))⟩ : T_api_Page), 2)
  else
    Option.bind (J4n) fun r2 =>
    if (x0 == r2) then
      some ((⟨0, 0, (Vector.replicate 16 (⟨false, []⟩ : J5))⟩ : T_api_Page), 7)
    else
      Option.bind (J22 x0 none (some 8)) fun m6 =>
      Option.bind (J22 x0 (some 248) none) fun m9 =>
      if (m6 == m9) then
        Option.bind (JM x0 244 4) fun r13 =>
        Option.bind (J22 x0 none (some 244)) fun m16 =>
        Option.bind (J1X m16) fun r19 =>
        if ((r13 : Int) != (IntKind.wrap .i64 r19)) then
          some ((⟨0, 0, (Vector.replicate 16 (⟨false, []⟩ : J5))⟩ : T_api_Page), 3)
        else
          Option.bind (J2Y x0) fun r23 =>
          Option.bind (J0B r23.1) fun r26 =>
          if r23.2 then
            if ((r26.2 : Int) != 0) then
              some ((⟨0, 0, (Vector.replicate 16 (⟨false, []⟩ : J5))⟩ : T_api_Page), 4)
            else
              if (r26.1 == x0) then
                some (r23.1, 0)
              else
                some ((⟨0, 0, (Vector.replicate 16 (⟨false, []⟩ : J5))⟩ : T_api_Page), 4)
          else
            some ((⟨0, 0, (Vector.replicate 16 (⟨false, []⟩ : J5))⟩ : T_api_Page), 4)
      else
        some ((⟨0, 0, (Vector.replicate 16 (⟨false, []⟩ : J5))⟩ : T_api_Page), 27)
theorem JfH {x0 : List UInt8} {o : T_api_Page × Int} (h : J0M x0 = some o) :
    rk (J1 p) J5j 0 [] (X (J1 p) J0C ⟨[(0, .p (.s x0))], []⟩) = JdZ o := by
  unfold J0M at h
  rcases Je h with ⟨h1, h⟩ | ⟨h1, h⟩
  · obtain rfl := sj h
    try simp only [↓Da, Ua, J0C, J6, J2, Jf, J3O, *, ↓reduceIte, Nat.reduceEqDiff, Nat.reduceAdd, Nat.reduceLT, Nat.reduceMul]
    rfl
  · obtain ⟨r2, h3, h⟩ := bi h
    have f4 := Jek p h3
    try simp only [Nf] at f4
    try simp only [↓Da, Ua, J0C, J6, J2, Jf, *, ↓reduceIte, Nat.reduceEqDiff, Nat.reduceAdd, Nat.reduceLT, Nat.reduceMul]
    rcases Je h with ⟨h5, h⟩ | ⟨h5, h⟩
    · obtain rfl := sj h
      try simp only [↓Da, Ua, J0C, J6, J2, Jf, J3O, *, ↓reduceIte, Nat.reduceEqDiff, Nat.reduceAdd, Nat.reduceLT, Nat.reduceMul]
      rfl
    · obtain ⟨m6, h7, h⟩ := bi h
      have f8 : J5a (.p (.s x0)) none (some (.p (.i .i64 8))) = some (.p (.s m6)) := J9O (k := .i64) (lo := none) (hi := (some 8)) h7
      try simp only [Nf] at f8
      obtain ⟨m9, h10, h⟩ := bi h
      have f11 : J5a (.p (.s x0)) (some (.p (.i .i64 248))) none = some (.p (.s m9)) := J9O (k := .i64) (lo := (some 248)) (hi := none) h10
      try simp only [Nf] at f11
      try simp only [↓Da, Ua, J0C, J6, J2, Jf, *, ↓reduceIte, Nat.reduceEqDiff, Nat.reduceAdd, Nat.reduceLT, Nat.reduceMul]
      rcases Je h with ⟨h12, h⟩ | ⟨h12, h⟩
      · obtain ⟨r13, h14, h⟩ := bi h
        have f15 := J8l p h14
        try simp only [Nf] at f15
        obtain ⟨m16, h17, h⟩ := bi h
        have f18 : J5a (.p (.s x0)) none (some (.p (.i .i64 244))) = some (.p (.s m16)) := J9O (k := .i64) (lo := none) (hi := (some 244)) h17
        try simp only [Nf] at f18
        obtain ⟨r19, h20, h⟩ := bi h
        have f21 := Jg5 p h20
        try simp only [Nf] at f21
        try simp only [↓Da, Ua, J0C, J6, J2, Jf, *, ↓reduceIte, Nat.reduceEqDiff, Nat.reduceAdd, Nat.reduceLT, Nat.reduceMul]
        rcases Je h with ⟨h22, h⟩ | ⟨h22, h⟩
        · obtain rfl := sj h
          try simp only [↓Da, Ua, J0C, J6, J2, Jf, J3O, *, ↓reduceIte, Nat.reduceEqDiff, Nat.reduceAdd, Nat.reduceLT, Nat.reduceMul]
          rfl
        · obtain ⟨r23, h24, h⟩ := bi h
          have f25 := Jmn p h24
          try simp only [Nf] at f25
          obtain ⟨r26, h27, h⟩ := bi h
          have f28 := Ja8 p h27
          try simp only [Nf] at f28
          try simp only [↓Da, Ua, J0C, J6, J2, Jf, *, ↓reduceIte, Nat.reduceEqDiff, Nat.reduceAdd, Nat.reduceLT, Nat.reduceMul]
          rcases Je h with ⟨h29, h⟩ | ⟨h29, h⟩
          · try simp only [↓Da, Ua, J0C, J6, J2, Jf, *, ↓reduceIte, Nat.reduceEqDiff, Nat.reduceAdd, Nat.reduceLT, Nat.reduceMul]
            rcases Je h with ⟨h30, h⟩ | ⟨h30, h⟩
            · obtain rfl := sj h
              try simp only [↓Da, Ua, J0C, J6, J2, Jf, J3O, *, ↓reduceIte, Nat.reduceEqDiff, Nat.reduceAdd, Nat.reduceLT, Nat.reduceMul]
              rfl
            · try simp only [↓Da, Ua, J0C, J6, J2, Jf, *, ↓reduceIte, Nat.reduceEqDiff, Nat.reduceAdd, Nat.reduceLT, Nat.reduceMul]
              rcases Je h with ⟨h31, h⟩ | ⟨h31, h⟩
              · obtain rfl := sj h
                try simp only [↓Da, Ua, J0C, J6, J2, Jf, J3O, *, ↓reduceIte, Nat.reduceEqDiff, Nat.reduceAdd, Nat.reduceLT, Nat.reduceMul]
                rfl
              · obtain rfl := sj h
                try simp only [↓Da, Ua, J0C, J6, J2, Jf, J3O, *, ↓reduceIte, Nat.reduceEqDiff, Nat.reduceAdd, Nat.reduceLT, Nat.reduceMul]
                rfl
          · obtain rfl := sj h
            try simp only [↓Da, Ua, J0C, J6, J2, Jf, J3O, *, ↓reduceIte, Nat.reduceEqDiff, Nat.reduceAdd, Nat.reduceLT, Nat.reduceMul]
            rfl
      · obtain rfl := sj h
        try simp only [↓Da, Ua, J0C, J6, J2, Jf, J3O, *, ↓reduceIte, Nat.reduceEqDiff, Nat.reduceAdd, Nat.reduceLT, Nat.reduceMul]
        rfl
theorem Jkp {x0 : List UInt8} {o : T_api_Page × Int} (h : J0M x0 = some o) : AF (J1 p) J5l [.p (.s x0)] [] = JdZ o :=
  (J14 (J1 p) (Jko p) rfl).trans (JfH p h)
theorem Jki {x0 : List UInt8} {o : T_api_Page × Int} (h : J0M x0 = some o) : ∀ ws new st, (Jx (AF (J1 p)) J5l ([.p (.s x0)], ws) 0 new).run st = some ⟨.tup [.data (J4 o.1), .p (.i .i64 o.2)], ws⟩ := JW rfl (Jkp p h) rfl
def Jbl (x5 : List UInt8) (x6 : Int) (b0 : T_api_Page) : Option ((((List UInt8) × Int) ⊕ ((List UInt8) × Int))) :=
  some (.inl (x5, (IntKind.wrap .i64 (x6 + 1))))
def J6q (x5 : List UInt8) (x6 : Int) (x7 : Int) (b0 : T_api_Page) : Option ((((List UInt8) × Int) ⊕ ((List UInt8) × Int))) :=
  Option.bind (J2u x5 x7 1) fun r1 =>
  Option.bind (inb 16 x6) fun u4 =>
  Option.bind (J5i b0.Cells x6) fun y7 =>
  Option.bind (J4u (IntKind.wrap .i64 (12 - ((List.length y7.Data : Nat) : Int)))) fun r11 =>
  Option.bind (J37 y7.Data r11) fun s15 =>
  Option.bind (J37 r1 s15) fun s17 =>
  Jbl s17 x6 b0
def Jbg (x5 : List UInt8) (b0 : T_api_Page) : Option ((List UInt8) × Int) :=
  Option.bind (J4u (IntKind.wrap .i64 (244 - ((List.length x5 : Nat) : Int)))) fun r1 =>
  Option.bind (J37 x5 r1) fun s4 =>
  Option.bind (Jc9 s4) fun r6 =>
  Option.bind (J2u s4 (IntKind.wrap .i64 r6) 4) fun r9 =>
  Option.bind (J2u r9 b0.LSN 8) fun r12 =>
  some (r12, 0)
def J6n (b0 : T_api_Page) (x5 : List UInt8) (x6 : Int) : Option ((((List UInt8) × Int) ⊕ ((List UInt8) × Int))) :=
  if (decide (x6 < 16)) then
    Option.bind (inb 16 x6) fun u2 =>
    Option.bind (J5i b0.Cells x6) fun y5 =>
    if y5.Set then
      J6q x5 x6 ((List.length y5.Data : Nat) : Int) b0
    else
      J6q x5 x6 255 b0
  else
    Option.map (fun o => .inr o) (Jbg x5 b0)
def Jha (b0 : T_api_Page) (s : (List UInt8) × Int) : Option ((List UInt8) × Int) :=
  JQ (fun s => J6n b0 s.1 s.2) s
def J9A (x0 : T_api_Page) : Option ((List UInt8) × Int) :=
  Option.bind (Jab x0) fun r1 =>
  if ((r1 : Int) != 0) then
    some (([] : List UInt8), r1)
  else
    Option.bind (J2u ([]) x0.LSN 8) fun r5 =>
    Option.bind (J2u r5 x0.ID 4) fun r8 =>
    Jha x0 (r8, 0)
def J9i (b1 : Ja) (r : Jq) : Option Res := some (.tup [], [.box (List.map AV.p (Jj r)), .box (List.map AV.p (J3 b1))])
def J3X (b0 : Jq) (b1 : Ja) : Option (Jq) :=
  some (⟨(JeN b0.LSN b1.Ref), b0.Image, b0.ImageLSN⟩ : Jq)
theorem Jbs {b0 : Jq} {b1 : Ja} {o : Jq} (h : J3X b0 b1 = some o) :
    rk (J1 p) J2Q 2 [] (X (J1 p) J41 ⟨[(0, .ptr 0 0), (1, .ptr 1 0)], [.box (List.map AV.p (Jj b0)), .box (List.map AV.p (J3 b1))]⟩) = (J9i b1) o := by
  unfold J3X at h
  obtain rfl := sj h
  try simp only [↓Da, Ua, J41, J6, Jo, Jz, Jn, Je8, ↓reduceIte, Nat.reduceEqDiff, Nat.reduceAdd, Nat.reduceLT, Nat.reduceMul]
  rfl
theorem Je9 {b0 : Jq} {b1 : Ja} {o : Jq} (h : J3X b0 b1 = some o) : AF (J1 p) J1a [.ptr 0 0, .ptr 1 0] [.box (List.map AV.p (Jj b0)), .box (List.map AV.p (J3 b1))] = (J9i b1) o :=
  (J14 (J1 p) (Jeh p) rfl).trans (Jbs p h)
def J4d (b0 : Ja) (r : Ji) : Option Res := some (.data (JE r), [.box (List.map AV.p (J3 b0))])
def J0i (x0 : Ji) (x1 : Int) (b0 : Ja) : Option (Ji) :=
  Option.bind (J1A x0.Rows) fun r1 =>
  Option.bind (idx r1 x1) fun y4 =>
  Option.bind (J3X y4 b0) fun r8 =>
  Option.bind (some (List.set r1 (Int.toNat x1) r8)) fun m11 =>
  some (⟨m11⟩ : Ji)
theorem J6h {x0 : Ji} {x1 : Int} {b0 : Ja} {o : Ji} (h : J0i x0 x1 b0 = some o) :
    rk (J1 p) J3f 1 [] (X (J1 p) J4m ⟨[(0, .data (JE x0)), (1, .p (.i .i64 x1)), (2, .fn J1a [] [.ptr 0 0])], [.box (List.map AV.p (J3 b0))]⟩) = (J4d b0) o := by
  unfold J0i at h
  obtain ⟨r1, h2, h⟩ := bi h
  have f3 : ∀ ws new s, (Jx (AF (J1 p)) J19 ([.p (.sl 3 (List.map Jj x0.Rows))], ws) 1 new).run s = some ⟨.slr new 0 (List.length r1), ws ++ [(new, .arr true 3 (List.map Jj r1))]⟩ := Jnq rfl (J9a p h2)
  try simp only [Nf, Jc, Jb, J7, J8, J9Q] at f3
  obtain ⟨y4, h5, h⟩ := bi h
  have f6 := JlY (r := Jj) h5
  try simp only [Nf, Jc, Jb, J7, J8, J9Q] at f6
  have f7 : (0 ≤ (x1 : Int) ∧ (x1 : Int) < (((List.length r1) : Nat) : Int)) = True := eq_true (by have e0 := Jrl h5; (try simp only [List.length_cons, List.length_nil, Nat.zero_add] at e0); omega)
  obtain ⟨r8, h9, h⟩ := bi h
  have f15 : ((List.map Jj r1))[(Int.toNat x1)]? = some (Jj y4) := JlY h5
  have f10 : ∀ ws new s, (J7g ws 3).run s = some (.arr true 3 (List.map Jj r1)) → ((List.length r1) : Nat) = List.length (List.map Jj r1) → J1o ws s [0] [List.map AV.p (J3 b0)] → (Jx (AF (J1 p)) J1a ([.ep 3 (List.length r1) (Int.toNat x1) 0, .ptr 0 0], ws) 0 new).run s = some ⟨.tup [], ws ++ [(3, .arr true 3 (List.set (List.map Jj r1) (Int.toNat x1) (Jj r8))), (0, .box (List.map AV.p (J3 b0)))]⟩ := fun ws new s h1 h2 h3 => Jm9 (args' := [.ptr 0 0, .ptr 1 0]) (bs := [0]) (css := [List.map AV.p (J3 b0)]) (css' := [List.map AV.p (J3 b0)]) (row := (Jj y4)) (row' := Jj r8) rfl rfl (by first | rfl | simp [ren.renL, ren, J2P]) (by simp [J02, Jy]) (Je9 p h9) rfl rfl (by simp [J02, Jy]) ws new s h1 h2 f15 h3
  try simp only [Nf, Jc, Jb, J7, J8, J9Q] at f10
  obtain ⟨m11, h12, h⟩ := bi h
  have f13 : List.set (List.map Jj r1) (Int.toNat x1) (Jj r8) = List.map Jj m11 := by
    rw [← Option.some.inj h12, List.map_set]
  try simp only [Nf, Jc, Jb, J7, J8, J9Q] at f13
  have g14 : List.length m11 = List.length r1 := by rw [← Option.some.inj h12, List.length_set]
  obtain rfl := sj h
  try simp only [↓Da, Ua, J4m, Jc, Jb, J7, J8, J9Q, Jem, *, ↓reduceIte, Nat.reduceEqDiff, Nat.reduceAdd, Nat.reduceLT, Nat.reduceMul]
  rfl
theorem J7a {x0 : Ji} {x1 : Int} {b0 : Ja} {o : Ji} (h : J0i x0 x1 b0 = some o) : AF (J1 p) J3g [.data (JE x0), .p (.i .i64 x1), .fn J1a [] [.ptr 0 0]] [.box (List.map AV.p (J3 b0))] = (J4d b0) o :=
  (J14 (J1 p) (JeZ p) rfl).trans (J6h p h)
def Jbe  (r : Ji × Int) : Option Res := some (.tup [.data (JE r.1), .p (.i .i64 r.2)], [])
def J1c (x0 : Ji) (x1 : Ja) : Option (Ji × Int) :=
  Option.bind (J1s x0) fun r1 =>
  if r1 then
    Option.bind (J4B x1) fun r5 =>
    if r5 then
      if ((x1.Kind : Int) != 7) then
        some (x0, 0)
      else
        Option.bind (J1t x0 x1.Change.Page) fun r11 =>
        if r11 then
          Option.bind (J0i x0 x1.Change.Page x1) fun r16 =>
          some (r16, 0)
        else
          some ((⟨([] : List Jq)⟩ : Ji), 1)
    else
      some ((⟨([] : List Jq)⟩ : Ji), 12)
  else
    some ((⟨([] : List Jq)⟩ : Ji), 28)
theorem Jdi {x0 : Ji} {x1 : Ja} {o : Ji × Int} (h : J1c x0 x1 = some o) :
    rk (J1 p) J4a 0 [] (X (J1 p) J0S ⟨[(0, .data (JE x0)), (1, .data (J3 x1))], []⟩) = Jbe o := by
  unfold J1c at h
  obtain ⟨r1, h2, h⟩ := bi h
  have f3 := Jau p h2
  try simp only [Nf, Jc] at f3
  try simp only [↓Da, Ua, J0S, Jc, J6, Jo, Jz, Jn, *, ↓reduceIte, Nat.reduceEqDiff, Nat.reduceAdd, Nat.reduceLT, Nat.reduceMul]
  rcases Je h with ⟨h4, h⟩ | ⟨h4, h⟩
  · obtain ⟨r5, h6, h⟩ := bi h
    have f7 := Jkn p h6
    try simp only [Nf, Jc] at f7
    try simp only [↓Da, Ua, J0S, Jc, J6, Jo, Jz, Jn, *, ↓reduceIte, Nat.reduceEqDiff, Nat.reduceAdd, Nat.reduceLT, Nat.reduceMul]
    rcases Je h with ⟨h8, h⟩ | ⟨h8, h⟩
    · try simp only [↓Da, Ua, J0S, Jc, J6, Jo, Jz, Jn, *, ↓reduceIte, Nat.reduceEqDiff, Nat.reduceAdd, Nat.reduceLT, Nat.reduceMul]
      rcases Je h with ⟨h9, h⟩ | ⟨h9, h⟩
      · obtain rfl := sj h
        try simp only [↓Da, Ua, J0S, Jc, J6, Jo, Jz, Jn, J53, *, ↓reduceIte, Nat.reduceEqDiff, Nat.reduceAdd, Nat.reduceLT, Nat.reduceMul]
        rfl
      · have f10 : sub (J3 x1) 6 1 = some ((r_i .i64) x1.Change.Page) := by
          have e0 := (Jn8 (J6m x1) (J70 x1.Change))
          exact e0
        try simp only [Nf, Jc] at f10
        obtain ⟨r11, h12, h⟩ := bi h
        have f13 := Jat p h12
        try simp only [Nf, Jc] at f13
        try simp only [↓Da, Ua, J0S, Jc, J6, Jo, Jz, Jn, *, ↓reduceIte, Nat.reduceEqDiff, Nat.reduceAdd, Nat.reduceLT, Nat.reduceMul]
        rcases Je h with ⟨h14, h⟩ | ⟨h14, h⟩
        · try try rw [h4] at h14
          have f15 : sub (J3 x1) 6 1 = some ((r_i .i64) x1.Change.Page) := by
            have e0 := (Jn8 (J6m x1) (J70 x1.Change))
            exact e0
          try simp only [Nf, Jc] at f15
          obtain ⟨r16, h17, h⟩ := bi h
          have f18 : ∀ ws new s, J1o ws s [1] [List.map AV.p (J3 x1)] → (Jx (AF (J1 p)) J3g ([.data (JE x0), .p (.i .i64 x1.Change.Page), .fn J1a [] [.ptr 1 0]], ws) 0 new).run s = some ⟨.data (JE r16), ws ++ [(1, .box (List.map AV.p (J3 x1)))]⟩ := J10 (args' := [.data (JE x0), .p (.i .i64 x1.Change.Page), .fn J1a [] [.ptr 0 0]]) (bs := [1]) (css := [List.map AV.p (J3 x1)]) (css' := [List.map AV.p (J3 x1)]) rfl rfl rfl (by simp [J02, Jy]) (J7a p h17) rfl rfl (by simp [J02, Jy])
          try simp only [Nf, Jc] at f18
          obtain rfl := sj h
          try simp only [↓Da, Ua, J0S, Jc, J6, Jo, Jz, Jn, J53, *, ↓reduceIte, Nat.reduceEqDiff, Nat.reduceAdd, Nat.reduceLT, Nat.reduceMul]
          rfl
        · try try rw [h4] at h14
          obtain rfl := sj h
          try simp only [↓Da, Ua, J0S, Jc, J6, Jo, Jz, Jn, J53, *, ↓reduceIte, Nat.reduceEqDiff, Nat.reduceAdd, Nat.reduceLT, Nat.reduceMul]
          rfl
    · obtain rfl := sj h
      try simp only [↓Da, Ua, J0S, Jc, J6, Jo, Jz, Jn, J53, *, ↓reduceIte, Nat.reduceEqDiff, Nat.reduceAdd, Nat.reduceLT, Nat.reduceMul]
      rfl
  · obtain rfl := sj h
    try simp only [↓Da, Ua, J0S, Jc, J6, Jo, Jz, Jn, J53, *, ↓reduceIte, Nat.reduceEqDiff, Nat.reduceAdd, Nat.reduceLT, Nat.reduceMul]
    rfl
theorem Jhb {x0 : Ji} {x1 : Ja} {o : Ji × Int} (h : J1c x0 x1 = some o) : AF (J1 p) J2o [.data (JE x0), .data (J3 x1)] [] = Jbe o :=
  (J14 (J1 p) (Jgt p) rfl).trans (Jdi p h)
theorem J8v {x0 : Ji} {x1 : Ja} {o : Ji × Int} (h : J1c x0 x1 = some o) : ∀ ws new st, (Jx (AF (J1 p)) J2o ([.data (JE x0), .data (J3 x1)], ws) 0 new).run st = some ⟨.tup [.data (JE o.1), .p (.i .i64 o.2)], ws⟩ := JW rfl (Jhb p h) rfl
def JbP  (r : T_api_Page × Int) : Option Res := some (.tup [.data (J4 r.1), .p (.i .i64 r.2)], [])
def J17 (x0 : List UInt8) (x1 : Int) : Option (T_api_Page × Int) :=
  Option.bind (J1e x1) fun r1 =>
  if r1 then
    Option.bind (J0M x0) fun r5 =>
    if ((r5.2 : Int) == 7) then
      Option.bind (J7y x1) fun r9 =>
      some (r9, 0)
    else
      if ((r5.2 : Int) != 0) then
        some ((⟨0, 0, (Vector.replicate 16 (⟨false, []⟩ : J5))⟩ : T_api_Page), r5.2)
      else
        if ((r5.1.ID : Int) != x1) then
          some ((⟨0, 0, (Vector.replicate 16 (⟨false, []⟩ : J5))⟩ : T_api_Page), 6)
        else
          some (r5.1, 0)
  else
    some ((⟨0, 0, (Vector.replicate 16 (⟨false, []⟩ : J5))⟩ : T_api_Page), 1)
theorem Jec {x0 : List UInt8} {x1 : Int} {o : T_api_Page × Int} (h : J17 x0 x1 = some o) :
    rk (J1 p) J4r 0 [] (X (J1 p) J18 ⟨[(0, .p (.s x0)), (1, .p (.i .i64 x1))], []⟩) = JbP o := by
  unfold J17 at h
  obtain ⟨r1, h2, h⟩ := bi h
  have f3 := Jf2 p h2
  try simp only [Nf] at f3
  try simp only [↓Da, Ua, J18, J6, J2, Jf, *, ↓reduceIte, Nat.reduceEqDiff, Nat.reduceAdd, Nat.reduceLT, Nat.reduceMul]
  rcases Je h with ⟨h4, h⟩ | ⟨h4, h⟩
  · obtain ⟨r5, h6, h⟩ := bi h
    have f7 := Jki p h6
    try simp only [Nf] at f7
    try simp only [↓Da, Ua, J18, J6, J2, Jf, *, ↓reduceIte, Nat.reduceEqDiff, Nat.reduceAdd, Nat.reduceLT, Nat.reduceMul]
    rcases Je h with ⟨h8, h⟩ | ⟨h8, h⟩
    · have h8n : ((r5.2 : Int) != 7) = false := by rw [bne, h8]; rfl
      obtain ⟨r9, h10, h⟩ := bi h
      have f11 := JnH p h10
      try simp only [Nf] at f11
      obtain rfl := sj h
      try simp only [↓Da, Ua, J18, J6, J2, Jf, J5F, *, ↓reduceIte, Nat.reduceEqDiff, Nat.reduceAdd, Nat.reduceLT, Nat.reduceMul]
      rfl
    · have h8n : ((r5.2 : Int) != 7) = true := by rw [bne, h8]; rfl
      try simp only [↓Da, Ua, J18, J6, J2, Jf, *, ↓reduceIte, Nat.reduceEqDiff, Nat.reduceAdd, Nat.reduceLT, Nat.reduceMul]
      rcases Je h with ⟨h12, h⟩ | ⟨h12, h⟩
      · obtain rfl := sj h
        try simp only [↓Da, Ua, J18, J6, J2, Jf, J5F, *, ↓reduceIte, Nat.reduceEqDiff, Nat.reduceAdd, Nat.reduceLT, Nat.reduceMul]
        rfl
      · try simp only [↓Da, Ua, J18, J6, J2, Jf, *, ↓reduceIte, Nat.reduceEqDiff, Nat.reduceAdd, Nat.reduceLT, Nat.reduceMul]
        rcases Je h with ⟨h13, h⟩ | ⟨h13, h⟩
        · obtain rfl := sj h
          try simp only [↓Da, Ua, J18, J6, J2, Jf, J5F, *, ↓reduceIte, Nat.reduceEqDiff, Nat.reduceAdd, Nat.reduceLT, Nat.reduceMul]
          rfl
        · obtain rfl := sj h
          try simp only [↓Da, Ua, J18, J6, J2, Jf, J5F, *, ↓reduceIte, Nat.reduceEqDiff, Nat.reduceAdd, Nat.reduceLT, Nat.reduceMul]
          rfl
  · obtain rfl := sj h
    try simp only [↓Da, Ua, J18, J6, J2, Jf, J5F, *, ↓reduceIte, Nat.reduceEqDiff, Nat.reduceAdd, Nat.reduceLT, Nat.reduceMul]
    rfl
theorem JhN {x0 : List UInt8} {x1 : Int} {o : T_api_Page × Int} (h : J17 x0 x1 = some o) : AF (J1 p) J4s [.p (.s x0), .p (.i .i64 x1)] [] = JbP o :=
  (J14 (J1 p) (JhS p) rfl).trans (Jec p h)
theorem Jia {x0 : List UInt8} {x1 : Int} {o : T_api_Page × Int} (h : J17 x0 x1 = some o) : ∀ ws new st, (Jx (AF (J1 p)) J4s ([.p (.s x0), .p (.i .i64 x1)], ws) 0 new).run st = some ⟨.tup [.data (J4 o.1), .p (.i .i64 o.2)], ws⟩ := JW rfl (JhN p h) rfl
def J6y (x0 : List UInt8) (x7 : Int) (b0 : T_api_Page) (b1 : T_api_Page) : Option (((Int × T_api_Page) ⊕ (T_api_Page × Int))) :=
  some (.inl ((IntKind.wrap .i64 (x7 + 1)), b1))
def J46 (x0 : List UInt8) (b0 : T_api_Page) (b1 : T_api_Page) : Option (T_api_Page × Int) :=
  Option.bind (J9A b1) fun r1 =>
  if ((r1.2 : Int) != 0) then
    some ((⟨0, 0, (Vector.replicate 16 (⟨false, []⟩ : J5))⟩ : T_api_Page), 4)
  else
    if (r1.1 == x0) then
      some (b1, 0)
    else
      some ((⟨0, 0, (Vector.replicate 16 (⟨false, []⟩ : J5))⟩ : T_api_Page), 4)
def J55 (x0 : List UInt8) (b0 : T_api_Page) (x7 : Int) (b1 : T_api_Page) : Option (((Int × T_api_Page) ⊕ (T_api_Page × Int))) :=
  if (decide (x7 < 16)) then
    Option.bind (Jbq x0 (IntKind.wrap .i64 (12 + (IntKind.wrap .i64 (x7 * 13))))) fun c2 =>
    if (((IntKind.wrap .i64 c2) : Int) == 255) then
      J6y x0 x7 b0 b1
    else
      if (decide ((IntKind.wrap .i64 c2) > 12)) then
        some (.inr ((⟨0, 0, (Vector.replicate 16 (⟨false, []⟩ : J5))⟩ : T_api_Page), 4))
      else
        Option.bind (J22 x0 (some (IntKind.wrap .i64 ((IntKind.wrap .i64 (12 + (IntKind.wrap .i64 (x7 * 13)))) + 1))) (some (IntKind.wrap .i64 ((IntKind.wrap .i64 ((IntKind.wrap .i64 (12 + (IntKind.wrap .i64 (x7 * 13)))) + 1)) + (IntKind.wrap .i64 c2))))) fun m6 =>
        Option.bind (inb 16 x7) fun u9 =>
        Option.bind (J5i b1.Cells x7) fun y12 =>
        J6y x0 x7 b0 (⟨b1.ID, b1.LSN, (J7s b1.Cells x7 (⟨true, m6⟩ : J5))⟩ : T_api_Page)
  else
    Option.map (fun o => .inr o) (J46 x0 b0 b1)
def Jbn (x0 : List UInt8) (b0 : T_api_Page) (s : Int × T_api_Page) : Option (T_api_Page × Int) :=
  JQ (fun s => J55 x0 b0 s.1 s.2) s
def J9s (x0 : List UInt8) : Option (T_api_Page × Int) :=
  if ((((List.length x0 : Nat) : Int) : Int) != 256) then
    some ((⟨0, 0, (Vector.replicate 16 (⟨false, []⟩ : J5))⟩ : T_api_Page), 2)
  else
    Option.bind (J8j) fun r2 =>
    if (x0 == r2) then
      some ((⟨0, 0, (Vector.replicate 16 (⟨false, []⟩ : J5))⟩ : T_api_Page), 7)
    else
      Option.bind (J22 x0 none (some 8)) fun m6 =>
      Option.bind (J22 x0 (some 248) none) fun m9 =>
      if (m6 == m9) then
        Option.bind (J4R x0 244 4) fun r13 =>
        Option.bind (J22 x0 none (some 244)) fun m16 =>
        Option.bind (Jc9 m16) fun r19 =>
        if (((IntKind.wrap .u32 r13.1) : Int) != r19) then
          some ((⟨0, 0, (Vector.replicate 16 (⟨false, []⟩ : J5))⟩ : T_api_Page), 3)
        else
          Option.bind (J4R x0 0 8) fun r23 =>
          Option.bind (J4R x0 8 4) fun r26 =>
          Jbn x0 (⟨0, 0, (Vector.replicate 16 (⟨false, []⟩ : J5))⟩ : T_api_Page) (0, (⟨r26.1, r23.1, (Vector.replicate 16 (⟨false, []⟩ : J5))⟩ : T_api_Page))
      else
        some ((⟨0, 0, (Vector.replicate 16 (⟨false, []⟩ : J5))⟩ : T_api_Page), 27)
def JdP  (r : Bool) : Option Res := some (.p (.b r), [])
def J4w  : Option (Bool) :=
  Option.bind (J1W 2) fun r1 =>
  Option.bind (J1c r1.1 (⟨9, 7, 0, 0, 0, 5, (⟨1, 0, (⟨false, ([] : List UInt8)⟩ : J5), (⟨false, ([] : List UInt8)⟩ : J5)⟩ : Jp), ([] : List UInt8)⟩ : Ja)) fun r4 =>
  Option.bind (J1c r4.1 (⟨10, 7, 0, 0, 0, 3, (⟨1, 0, (⟨false, ([] : List UInt8)⟩ : J5), (⟨false, ([] : List UInt8)⟩ : J5)⟩ : Jp), ([] : List UInt8)⟩ : Ja)) fun r7 =>
  if ((r1.2 : Int) == 0) then
    if ((r4.2 : Int) == 0) then
      if ((r7.2 : Int) == 0) then
        if ((((List.length r7.1.Rows : Nat) : Int) : Int) == 2) then
          Option.bind (idx r7.1.Rows 1) fun y14 =>
          some ((y14.LSN : Int) == 5)
        else
          some false
      else
        some false
    else
      some false
  else
    some false
theorem JfW  {o : Bool} (h : J4w = some o) :
    rk (J1 p) J5w 0 [] (X (J1 p) J1w ⟨[], []⟩) = JdP o := by
  unfold J4w at h
  obtain ⟨r1, h2, h⟩ := bi h
  have f3 := JbM p h2
  try simp only [Nf, Jc] at f3
  obtain ⟨r4, h5, h⟩ := bi h
  have f6 := J8v p h5
  try simp only [Nf, Jc] at f6
  obtain ⟨r7, h8, h⟩ := bi h
  have f9 := J8v p h8
  try simp only [Nf, Jc] at f9
  try simp only [↓Da, Ua, J1w, Jc, J6, Jo, Jz, Jn, *, ↓reduceIte, Nat.reduceEqDiff, Nat.reduceAdd, Nat.reduceLT, Nat.reduceMul]
  rcases Je h with ⟨h10, h⟩ | ⟨h10, h⟩
  · have h10n : ((r1.2 : Int) != 0) = false := by rw [bne, h10]; rfl
    try simp only [↓Da, Ua, J1w, Jc, J6, Jo, Jz, Jn, *, ↓reduceIte, Nat.reduceEqDiff, Nat.reduceAdd, Nat.reduceLT, Nat.reduceMul]
    rcases Je h with ⟨h11, h⟩ | ⟨h11, h⟩
    · have h11n : ((r4.2 : Int) != 0) = false := by rw [bne, h11]; rfl
      try simp only [↓Da, Ua, J1w, Jc, J6, Jo, Jz, Jn, *, ↓reduceIte, Nat.reduceEqDiff, Nat.reduceAdd, Nat.reduceLT, Nat.reduceMul]
      rcases Je h with ⟨h12, h⟩ | ⟨h12, h⟩
      · have h12n : ((r7.2 : Int) != 0) = false := by rw [bne, h12]; rfl
        try simp only [↓Da, Ua, J1w, Jc, J6, Jo, Jz, Jn, *, ↓reduceIte, Nat.reduceEqDiff, Nat.reduceAdd, Nat.reduceLT, Nat.reduceMul]
        rcases Je h with ⟨h13, h⟩ | ⟨h13, h⟩
        · have h13n : ((((List.length r7.1.Rows : Nat) : Int) : Int) != 2) = false := by rw [bne, h13]; rfl
          obtain ⟨y14, h15, h⟩ := bi h
          have f16 := JbA (r := Jj) h15
          try simp only [Nf, Jc] at f16
          obtain rfl := sj h
          try simp only [↓Da, Ua, J1w, Jc, J6, Jo, Jz, Jn, J6C, *, ↓reduceIte, Nat.reduceEqDiff, Nat.reduceAdd, Nat.reduceLT, Nat.reduceMul]
          rfl
        · have h13n : ((((List.length r7.1.Rows : Nat) : Int) : Int) != 2) = true := by rw [bne, h13]; rfl
          obtain rfl := sj h
          try simp only [↓Da, Ua, J1w, Jc, J6, Jo, Jz, Jn, J6C, *, ↓reduceIte, Nat.reduceEqDiff, Nat.reduceAdd, Nat.reduceLT, Nat.reduceMul]
          rfl
      · have h12n : ((r7.2 : Int) != 0) = true := by rw [bne, h12]; rfl
        obtain rfl := sj h
        try simp only [↓Da, Ua, J1w, Jc, J6, Jo, Jz, Jn, J6C, *, ↓reduceIte, Nat.reduceEqDiff, Nat.reduceAdd, Nat.reduceLT, Nat.reduceMul]
        rfl
    · have h11n : ((r4.2 : Int) != 0) = true := by rw [bne, h11]; rfl
      obtain rfl := sj h
      try simp only [↓Da, Ua, J1w, Jc, J6, Jo, Jz, Jn, J6C, *, ↓reduceIte, Nat.reduceEqDiff, Nat.reduceAdd, Nat.reduceLT, Nat.reduceMul]
      rfl
  · have h10n : ((r1.2 : Int) != 0) = true := by rw [bne, h10]; rfl
    obtain rfl := sj h
    try simp only [↓Da, Ua, J1w, Jc, J6, Jo, Jz, Jn, J6C, *, ↓reduceIte, Nat.reduceEqDiff, Nat.reduceAdd, Nat.reduceLT, Nat.reduceMul]
    rfl
theorem Jkd  {o : Bool} (h : J4w = some o) : AF (J1 p) J4D [] [] = JdP o :=
  (J14 (J1 p) (Jku p) rfl).trans (JfW p h)
theorem JkE  {o : Bool} (h : J4w = some o) : ∀ ws new st, (Jx (AF (J1 p)) J4D ([], ws) 0 new).run st = some ⟨.p (.b o), ws⟩ := JW rfl (Jkd p h) rfl
def Jap  (r : T_api_Page × Int) : Option Res := some (.tup [.data (J4 r.1), .p (.i .i64 r.2)], [])
def JS (x0 : Ji) (x1 : Int) (x2 : Int) (x3 : List UInt8) : Option (T_api_Page × Int) :=
  Option.bind (J1s x0) fun r1 =>
  if r1 then
    Option.bind (J1t x0 x1) fun r5 =>
    if r5 then
      if (decide (x2 < 0)) then
        some ((⟨0, 0, (Vector.replicate 16 (⟨false, []⟩ : J5))⟩ : T_api_Page), 1)
      else
        Option.bind (J17 x3 x1) fun r10 =>
        Option.bind (idx x0.Rows x1) fun y13 =>
        if ((r10.2 : Int) != 0) then
          some ((⟨0, 0, (Vector.replicate 16 (⟨false, []⟩ : J5))⟩ : T_api_Page), r10.2)
        else
          if (decide (r10.1.LSN > x2)) then
            if (decide (r10.1.LSN > y13.LSN)) then
              some ((⟨0, 0, (Vector.replicate 16 (⟨false, []⟩ : J5))⟩ : T_api_Page), 9)
            else
              if (decide (r10.1.LSN < y13.LSN)) then
                some ((⟨0, 0, (Vector.replicate 16 (⟨false, []⟩ : J5))⟩ : T_api_Page), 8)
              else
                some (r10.1, 0)
          else
            if (decide (r10.1.LSN < y13.LSN)) then
              some ((⟨0, 0, (Vector.replicate 16 (⟨false, []⟩ : J5))⟩ : T_api_Page), 8)
            else
              some (r10.1, 0)
    else
      some ((⟨0, 0, (Vector.replicate 16 (⟨false, []⟩ : J5))⟩ : T_api_Page), 1)
  else
    some ((⟨0, 0, (Vector.replicate 16 (⟨false, []⟩ : J5))⟩ : T_api_Page), 28)
theorem Jcv {x0 : Ji} {x1 : Int} {x2 : Int} {x3 : List UInt8} {o : T_api_Page × Int} (h : JS x0 x1 x2 x3 = some o) :
    rk (J1 p) J3F 0 [] (X (J1 p) J03 ⟨[(0, .data (JE x0)), (1, .p (.i .i64 x1)), (2, .p (.i .i64 x2)), (3, .p (.s x3))], []⟩) = Jap o := by
  unfold JS at h
  obtain ⟨r1, h2, h⟩ := bi h
  have f3 := Jau p h2
  try simp only [Nf, Jc] at f3
  try simp only [↓Da, Ua, J03, Jc, J6, J2, Jf, Jn, *, ↓reduceIte, Nat.reduceEqDiff, Nat.reduceAdd, Nat.reduceLT, Nat.reduceMul]
  rcases Je h with ⟨h4, h⟩ | ⟨h4, h⟩
  · obtain ⟨r5, h6, h⟩ := bi h
    have f7 := Jat p h6
    try simp only [Nf, Jc] at f7
    try simp only [↓Da, Ua, J03, Jc, J6, J2, Jf, Jn, *, ↓reduceIte, Nat.reduceEqDiff, Nat.reduceAdd, Nat.reduceLT, Nat.reduceMul]
    rcases Je h with ⟨h8, h⟩ | ⟨h8, h⟩
    · try simp only [↓Da, Ua, J03, Jc, J6, J2, Jf, Jn, *, ↓reduceIte, Nat.reduceEqDiff, Nat.reduceAdd, Nat.reduceLT, Nat.reduceMul]
      rcases Je h with ⟨h9, h⟩ | ⟨h9, h⟩
      · obtain rfl := sj h
        try simp only [↓Da, Ua, J03, Jc, J6, J2, Jf, Jn, J1M, *, ↓reduceIte, Nat.reduceEqDiff, Nat.reduceAdd, Nat.reduceLT, Nat.reduceMul]
        rfl
      · obtain ⟨r10, h11, h⟩ := bi h
        have f12 := Jia p h11
        try simp only [Nf, Jc] at f12
        obtain ⟨y13, h14, h⟩ := bi h
        have f15 := JbA (r := Jj) h14
        try simp only [Nf, Jc] at f15
        try simp only [↓Da, Ua, J03, Jc, J6, J2, Jf, Jn, *, ↓reduceIte, Nat.reduceEqDiff, Nat.reduceAdd, Nat.reduceLT, Nat.reduceMul]
        rcases Je h with ⟨h16, h⟩ | ⟨h16, h⟩
        · try try rw [h4] at h16
          obtain rfl := sj h
          try simp only [↓Da, Ua, J03, Jc, J6, J2, Jf, Jn, J1M, *, ↓reduceIte, Nat.reduceEqDiff, Nat.reduceAdd, Nat.reduceLT, Nat.reduceMul]
          rfl
        · try try rw [h4] at h16
          try simp only [↓Da, Ua, J03, Jc, J6, J2, Jf, Jn, *, ↓reduceIte, Nat.reduceEqDiff, Nat.reduceAdd, Nat.reduceLT, Nat.reduceMul]
          rcases Je h with ⟨h17, h⟩ | ⟨h17, h⟩
          · try try rw [h4] at h17
            try simp only [↓Da, Ua, J03, Jc, J6, J2, Jf, Jn, *, ↓reduceIte, Nat.reduceEqDiff, Nat.reduceAdd, Nat.reduceLT, Nat.reduceMul]
            rcases Je h with ⟨h18, h⟩ | ⟨h18, h⟩
            · try try rw [h4] at h18
              obtain rfl := sj h
              try simp only [↓Da, Ua, J03, Jc, J6, J2, Jf, Jn, J1M, *, ↓reduceIte, Nat.reduceEqDiff, Nat.reduceAdd, Nat.reduceLT, Nat.reduceMul]
              rfl
            · try try rw [h4] at h18
              try simp only [↓Da, Ua, J03, Jc, J6, J2, Jf, Jn, *, ↓reduceIte, Nat.reduceEqDiff, Nat.reduceAdd, Nat.reduceLT, Nat.reduceMul]
              rcases Je h with ⟨h19, h⟩ | ⟨h19, h⟩
              · try try rw [h4] at h19
                obtain rfl := sj h
                try simp only [↓Da, Ua, J03, Jc, J6, J2, Jf, Jn, J1M, *, ↓reduceIte, Nat.reduceEqDiff, Nat.reduceAdd, Nat.reduceLT, Nat.reduceMul]
                rfl
              · try try rw [h4] at h19
                obtain rfl := sj h
                try simp only [↓Da, Ua, J03, Jc, J6, J2, Jf, Jn, J1M, *, ↓reduceIte, Nat.reduceEqDiff, Nat.reduceAdd, Nat.reduceLT, Nat.reduceMul]
                rfl
          · try try rw [h4] at h17
            try simp only [↓Da, Ua, J03, Jc, J6, J2, Jf, Jn, *, ↓reduceIte, Nat.reduceEqDiff, Nat.reduceAdd, Nat.reduceLT, Nat.reduceMul]
            rcases Je h with ⟨h20, h⟩ | ⟨h20, h⟩
            · try try rw [h4] at h20
              obtain rfl := sj h
              try simp only [↓Da, Ua, J03, Jc, J6, J2, Jf, Jn, J1M, *, ↓reduceIte, Nat.reduceEqDiff, Nat.reduceAdd, Nat.reduceLT, Nat.reduceMul]
              rfl
            · try try rw [h4] at h20
              obtain rfl := sj h
              try simp only [↓Da, Ua, J03, Jc, J6, J2, Jf, Jn, J1M, *, ↓reduceIte, Nat.reduceEqDiff, Nat.reduceAdd, Nat.reduceLT, Nat.reduceMul]
              rfl
    · obtain rfl := sj h
      try simp only [↓Da, Ua, J03, Jc, J6, J2, Jf, Jn, J1M, *, ↓reduceIte, Nat.reduceEqDiff, Nat.reduceAdd, Nat.reduceLT, Nat.reduceMul]
      rfl
  · obtain rfl := sj h
    try simp only [↓Da, Ua, J03, Jc, J6, J2, Jf, Jn, J1M, *, ↓reduceIte, Nat.reduceEqDiff, Nat.reduceAdd, Nat.reduceLT, Nat.reduceMul]
    rfl
theorem JfV {x0 : Ji} {x1 : Int} {x2 : Int} {x3 : List UInt8} {o : T_api_Page × Int} (h : JS x0 x1 x2 x3 = some o) : AF (J1 p) J0G [.data (JE x0), .p (.i .i64 x1), .p (.i .i64 x2), .p (.s x3)] [] = Jap o :=
  (J14 (J1 p) (JfN p) rfl).trans (Jcv p h)
theorem J3N {x0 : Ji} {x1 : Int} {x2 : Int} {x3 : List UInt8} {o : T_api_Page × Int} (h : JS x0 x1 x2 x3 = some o) : ∀ ws new st, (Jx (AF (J1 p)) J0G ([.data (JE x0), .p (.i .i64 x1), .p (.i .i64 x2), .p (.s x3)], ws) 0 new).run st = some ⟨.tup [.data (J4 o.1), .p (.i .i64 o.2)], ws⟩ := JW rfl (JfV p h) rfl
def J8m (x0 : List UInt8) (x1 : Int) : Option (T_api_Page × Int) :=
  if (decide (x1 < 0)) then
    some ((⟨0, 0, (Vector.replicate 16 (⟨false, []⟩ : J5))⟩ : T_api_Page), 1)
  else
    if (decide (x1 ≥ 64)) then
      some ((⟨0, 0, (Vector.replicate 16 (⟨false, []⟩ : J5))⟩ : T_api_Page), 1)
    else
      Option.bind (J9s x0) fun r3 =>
      if ((r3.2 : Int) == 7) then
        Option.bind (Jg9 x1) fun r7 =>
        some (r7, 0)
      else
        if ((r3.2 : Int) == 0) then
          if ((r3.1.ID : Int) != x1) then
            some ((⟨0, 0, (Vector.replicate 16 (⟨false, []⟩ : J5))⟩ : T_api_Page), 6)
          else
            some (r3.1, r3.2)
        else
          some (r3.1, r3.2)
end
end Go.Am
end
section
namespace Go.Am
set_option maxRecDepth 8000
set_option maxHeartbeats 4000000
set_option linter.unusedSimpArgs false
set_option linter.unusedVariables false
noncomputable section
variable (p : FuncId → Option (List AV → List Blk → Option Res))
def J83  (r : Bool) : Option Res := some (.p (.b r), [])
def J2W (x0 : List Int) (x1 : Int) (x2 : Int) : Option (Bool) :=
  Option.bind (J4w) fun r1 =>
  if r1 then
    Option.bind (J5A x0 200) fun r5 =>
    Option.bind (J2H r5 1) fun r8 =>
    Option.bind (J2H r8.2 1) fun r11 =>
    Option.bind (Jcb (IntKind.wrap .i64 x1) 20) fun q14 =>
    Option.bind (Jcb (IntKind.wrap .i64 x2) 20) fun q16 =>
    Option.bind (J0B (⟨r8.1.ID, (IntKind.wrap .i64 (1 + q14)), r8.1.Cells⟩ : T_api_Page)) fun r18 =>
    Option.bind (J0B (⟨r11.1.ID, (IntKind.wrap .i64 ((IntKind.wrap .i64 ((IntKind.wrap .i64 (1 + q14)) + 1)) + q16)), r11.1.Cells⟩ : T_api_Page)) fun r21 =>
    Option.bind (J1W 3) fun r24 =>
    Option.bind (J1c r24.1 (⟨90, 7, 0, 0, 0, (IntKind.wrap .i64 ((IntKind.wrap .i64 ((IntKind.wrap .i64 (1 + q14)) + 1)) + q16)), (⟨1, 0, (⟨false, ([] : List UInt8)⟩ : J5), (⟨false, ([] : List UInt8)⟩ : J5)⟩ : Jp), ([] : List UInt8)⟩ : Ja)) fun r27 =>
    if ((r18.2 : Int) != 0) then
      some false
    else
      if ((r21.2 : Int) != 0) then
        some false
      else
        if ((r24.2 : Int) != 0) then
          some false
        else
          if ((r27.2 : Int) != 0) then
            some false
          else
            Option.bind (JS r27.1 1 (IntKind.wrap .i64 ((IntKind.wrap .i64 ((IntKind.wrap .i64 (1 + q14)) + 1)) + q16)) r18.1) fun r34 =>
            Option.bind (J4n) fun r37 =>
            Option.bind (JS r27.1 1 (IntKind.wrap .i64 ((IntKind.wrap .i64 ((IntKind.wrap .i64 (1 + q14)) + 1)) + q16)) r37) fun r41 =>
            Option.bind (JS r27.1 2 0 r21.1) fun r45 =>
            Option.bind (JS r27.1 1 (IntKind.wrap .i64 ((IntKind.wrap .i64 ((IntKind.wrap .i64 (1 + q14)) + 1)) + q16)) r21.1) fun r48 =>
            Option.bind (JS r24.1 1 (IntKind.wrap .i64 ((IntKind.wrap .i64 ((IntKind.wrap .i64 (1 + q14)) + 1)) + q16)) r21.1) fun r51 =>
            Option.bind (JS r24.1 1 (IntKind.wrap .i64 ((IntKind.wrap .i64 ((IntKind.wrap .i64 ((IntKind.wrap .i64 (1 + q14)) + 1)) + q16)) - 1)) r21.1) fun r54 =>
            if ((r34.2 : Int) == 8) then
              if ((r41.2 : Int) == 8) then
                if ((r45.2 : Int) == 6) then
                  if ((r48.2 : Int) == 0) then
                    if (r48.1 == (⟨r11.1.ID, (IntKind.wrap .i64 ((IntKind.wrap .i64 ((IntKind.wrap .i64 (1 + q14)) + 1)) + q16)), r11.1.Cells⟩ : T_api_Page)) then
                      if ((r51.2 : Int) == 0) then
                        if (r51.1 == (⟨r11.1.ID, (IntKind.wrap .i64 ((IntKind.wrap .i64 ((IntKind.wrap .i64 (1 + q14)) + 1)) + q16)), r11.1.Cells⟩ : T_api_Page)) then
                          some ((r54.2 : Int) == 9)
                        else
                          some false
                      else
                        some false
                    else
                      some false
                  else
                    some false
                else
                  some false
              else
                some false
            else
              some false
  else
    some false
theorem J9R {x0 : List Int} {x1 : Int} {x2 : Int} {o : Bool} (h : J2W x0 x1 x2 = some o) :
    rk (J1 p) J2d 0 [] (X (J1 p) Jt ⟨[(0, .p (.sl 1 (List.map (r_i .u8) x0))), (1, .p (.i .u8 x1)), (2, .p (.i .u8 x2))], []⟩) = J83 o := by
  unfold J2W at h
  obtain ⟨r1, h2, h⟩ := bi h
  have f3 := JkE p h2
  try simp only [Nf, Jc] at f3
  try simp only [↓Da, Ua, Ra, Jt, Jc, J6, J2, Jf, Jo, Jz, Jg, Jn, *, ↓reduceIte, Nat.reduceEqDiff, Nat.reduceAdd, Nat.reduceLT, Nat.reduceMul, Nat.reduceBEq]
  rcases Je h with ⟨h4, h⟩ | ⟨h4, h⟩
  · obtain ⟨r5, h6, h⟩ := bi h
    have f7 : ∀ ws new s, (Jx (AF (J1 p)) J6u ([.p (.sl 1 (List.map (r_i .u8) x0)), .p (.i .i64 200)], ws) 1 new).run s = some ⟨.ptr new 0, ws ++ [(new, .box (List.map AV.p (J0 r5)))]⟩ := Jnz rfl (JnZ p h6) (Jy _)
    try simp only [Nf, Jc] at f7
    obtain ⟨r8, h9, h⟩ := bi h
    have f10 : ∀ ws new s, J1o ws s [0] [List.map AV.p (J0 r5)] → (Jx (AF (J1 p)) J1O ([.ptr 0 0, .p (.i .i64 1)], ws) 0 new).run s = some ⟨.data (J4 r8.1), ws ++ [(0, .box (List.map AV.p (J0 r8.2)))]⟩ := J10 (args' := [.ptr 0 0, .p (.i .i64 1)]) (bs := [0]) (css := [List.map AV.p (J0 r5)]) (css' := [List.map AV.p (J0 r8.2)]) rfl rfl rfl (by simp [J02, Jy]) (Jaq p h9) rfl rfl (by simp [J02, Jy])
    try simp only [Nf, Jc] at f10
    obtain ⟨r11, h12, h⟩ := bi h
    have f13 : ∀ ws new s, J1o ws s [0] [List.map AV.p (J0 r8.2)] → (Jx (AF (J1 p)) J1O ([.ptr 0 0, .p (.i .i64 1)], ws) 0 new).run s = some ⟨.data (J4 r11.1), ws ++ [(0, .box (List.map AV.p (J0 r11.2)))]⟩ := J10 (args' := [.ptr 0 0, .p (.i .i64 1)]) (bs := [0]) (css := [List.map AV.p (J0 r8.2)]) (css' := [List.map AV.p (J0 r11.2)]) rfl rfl rfl (by simp [J02, Jy]) (Jaq p h12) rfl rfl (by simp [J02, Jy])
    try simp only [Nf, Jc] at f13
    obtain ⟨q14, h15, h⟩ := bi h
    obtain ⟨q16, h17, h⟩ := bi h
    obtain ⟨r18, h19, h⟩ := bi h
    have f20 := Ja8 p h19
    try simp only [Nf, Jc] at f20
    obtain ⟨r21, h22, h⟩ := bi h
    have f23 := Ja8 p h22
    try simp only [Nf, Jc] at f23
    obtain ⟨r24, h25, h⟩ := bi h
    have f26 := JbM p h25
    try simp only [Nf, Jc] at f26
    obtain ⟨r27, h28, h⟩ := bi h
    have f29 := J8v p h28
    try simp only [Nf, Jc] at f29
    try simp only [↓Da, Ua, Ra, Jt, Jc, J6, J2, Jf, Jo, Jz, Jg, Jn, *, ↓reduceIte, Nat.reduceEqDiff, Nat.reduceAdd, Nat.reduceLT, Nat.reduceMul, Nat.reduceBEq]
    rcases Je h with ⟨h30, h⟩ | ⟨h30, h⟩
    · try try rw [h4] at h30
      obtain rfl := sj h
      try simp only [↓Da, Ua, Ra, Jt, Jc, J6, J2, Jf, Jo, Jz, Jg, Jn, J0e, *, ↓reduceIte, Nat.reduceEqDiff, Nat.reduceAdd, Nat.reduceLT, Nat.reduceMul, Nat.reduceBEq]
      rfl
    · try try rw [h4] at h30
      try simp only [↓Da, Ua, Ra, Jt, Jc, J6, J2, Jf, Jo, Jz, Jg, Jn, *, ↓reduceIte, Nat.reduceEqDiff, Nat.reduceAdd, Nat.reduceLT, Nat.reduceMul, Nat.reduceBEq]
      rcases Je h with ⟨h31, h⟩ | ⟨h31, h⟩
      · obtain rfl := sj h
        try simp only [↓Da, Ua, Ra, Jt, Jc, J6, J2, Jf, Jo, Jz, Jg, Jn, J0e, *, ↓reduceIte, Nat.reduceEqDiff, Nat.reduceAdd, Nat.reduceLT, Nat.reduceMul, Nat.reduceBEq]
        rfl
      · try simp only [↓Da, Ua, Ra, Jt, Jc, J6, J2, Jf, Jo, Jz, Jg, Jn, *, ↓reduceIte, Nat.reduceEqDiff, Nat.reduceAdd, Nat.reduceLT, Nat.reduceMul, Nat.reduceBEq]
        rcases Je h with ⟨h32, h⟩ | ⟨h32, h⟩
        · obtain rfl := sj h
          try simp only [↓Da, Ua, Ra, Jt, Jc, J6, J2, Jf, Jo, Jz, Jg, Jn, J0e, *, ↓reduceIte, Nat.reduceEqDiff, Nat.reduceAdd, Nat.reduceLT, Nat.reduceMul, Nat.reduceBEq]
          rfl
        · try simp only [↓Da, Ua, Ra, Jt, Jc, J6, J2, Jf, Jo, Jz, Jg, Jn, *, ↓reduceIte, Nat.reduceEqDiff, Nat.reduceAdd, Nat.reduceLT, Nat.reduceMul, Nat.reduceBEq]
          rcases Je h with ⟨h33, h⟩ | ⟨h33, h⟩
          · obtain rfl := sj h
            try simp only [↓Da, Ua, Ra, Jt, Jc, J6, J2, Jf, Jo, Jz, Jg, Jn, J0e, *, ↓reduceIte, Nat.reduceEqDiff, Nat.reduceAdd, Nat.reduceLT, Nat.reduceMul, Nat.reduceBEq]
            rfl
          · obtain ⟨r34, h35, h⟩ := bi h
            have f36 := J3N p h35
            try simp only [Nf, Jc] at f36
            obtain ⟨r37, h38, h⟩ := bi h
            have f39 := Jek p h38
            try simp only [Nf, Jc] at f39
            have f40 : ∀ ws k new s, Jm ((Jx (AF (J1 p)) J4j ([], ws) k new).reads s) = [] := J12 rfl
            try simp only [Nf, Jc] at f40
            obtain ⟨r41, h42, h⟩ := bi h
            have f43 := J3N p h42
            try simp only [Nf, Jc] at f43
            have f44 : ∀ ws k new s, Jm ((Jx (AF (J1 p)) J0G ([.data (JE r27.1), .p (.i .i64 1), .p (.i .i64 (IntKind.wrap .i64 ((IntKind.wrap .i64 ((IntKind.wrap .i64 (1 + q14)) + 1)) + q16))), .p (.s r37)], ws) k new).reads s) = [] := J12 rfl
            try simp only [Nf, Jc] at f44
            obtain ⟨r45, h46, h⟩ := bi h
            have f47 := J3N p h46
            try simp only [Nf, Jc] at f47
            obtain ⟨r48, h49, h⟩ := bi h
            have f50 := J3N p h49
            try simp only [Nf, Jc] at f50
            obtain ⟨r51, h52, h⟩ := bi h
            have f53 := J3N p h52
            try simp only [Nf, Jc] at f53
            obtain ⟨r54, h55, h⟩ := bi h
            have f56 := J3N p h55
            try simp only [Nf, Jc] at f56
            try simp only [↓Da, Ua, Ra, Jt, Jc, J6, J2, Jf, Jo, Jz, Jg, Jn, *, ↓reduceIte, Nat.reduceEqDiff, Nat.reduceAdd, Nat.reduceLT, Nat.reduceMul, Nat.reduceBEq]
            rcases Je h with ⟨h57, h⟩ | ⟨h57, h⟩
            · have h57n : ((r34.2 : Int) != 8) = false := by rw [bne, h57]; rfl
              try simp only [↓Da, Ua, Ra, Jt, Jc, J6, J2, Jf, Jo, Jz, Jg, Jn, *, ↓reduceIte, Nat.reduceEqDiff, Nat.reduceAdd, Nat.reduceLT, Nat.reduceMul, Nat.reduceBEq]
              rcases Je h with ⟨h58, h⟩ | ⟨h58, h⟩
              · have h58n : ((r41.2 : Int) != 8) = false := by rw [bne, h58]; rfl
                try simp only [↓Da, Ua, Ra, Jt, Jc, J6, J2, Jf, Jo, Jz, Jg, Jn, *, ↓reduceIte, Nat.reduceEqDiff, Nat.reduceAdd, Nat.reduceLT, Nat.reduceMul, Nat.reduceBEq]
                rcases Je h with ⟨h59, h⟩ | ⟨h59, h⟩
                · have h59n : ((r45.2 : Int) != 6) = false := by rw [bne, h59]; rfl
                  try simp only [↓Da, Ua, Ra, Jt, Jc, J6, J2, Jf, Jo, Jz, Jg, Jn, *, ↓reduceIte, Nat.reduceEqDiff, Nat.reduceAdd, Nat.reduceLT, Nat.reduceMul, Nat.reduceBEq]
                  rcases Je h with ⟨h60, h⟩ | ⟨h60, h⟩
                  · have h60n : ((r48.2 : Int) != 0) = false := by rw [bne, h60]; rfl
                    try simp only [↓Da, Ua, Ra, Jt, Jc, J6, J2, Jf, Jo, Jz, Jg, Jn, J5c, *, ↓reduceIte, Nat.reduceEqDiff, Nat.reduceAdd, Nat.reduceLT, Nat.reduceMul, Nat.reduceBEq]
                    rcases Je h with ⟨h62, h⟩ | ⟨h62, h⟩
                    · try try rw [h4] at h62
                      try simp only [↓Da, Ua, Ra, Jt, Jc, J6, J2, Jf, Jo, Jz, Jg, Jn, J5c, *, ↓reduceIte, Nat.reduceEqDiff, Nat.reduceAdd, Nat.reduceLT, Nat.reduceMul, Nat.reduceBEq]
                      rcases Je h with ⟨h63, h⟩ | ⟨h63, h⟩
                      · have h63n : ((r51.2 : Int) != 0) = false := by rw [bne, h63]; rfl
                        try simp only [↓Da, Ua, Ra, Jt, Jc, J6, J2, Jf, Jo, Jz, Jg, Jn, J5c, *, ↓reduceIte, Nat.reduceEqDiff, Nat.reduceAdd, Nat.reduceLT, Nat.reduceMul, Nat.reduceBEq]
                        rcases Je h with ⟨h65, h⟩ | ⟨h65, h⟩
                        · try try rw [h4] at h65
                          obtain rfl := sj h
                          try simp only [↓Da, Ua, Ra, Jt, Jc, J6, J2, Jf, Jo, Jz, Jg, Jn, J5c, J0e, *, ↓reduceIte, Nat.reduceEqDiff, Nat.reduceAdd, Nat.reduceLT, Nat.reduceMul, Nat.reduceBEq]
                          rfl
                        · try try rw [h4] at h65
                          obtain rfl := sj h
                          try simp only [↓Da, Ua, Ra, Jt, Jc, J6, J2, Jf, Jo, Jz, Jg, Jn, J5c, J0e, *, ↓reduceIte, Nat.reduceEqDiff, Nat.reduceAdd, Nat.reduceLT, Nat.reduceMul, Nat.reduceBEq]
                          rfl
                      · have h63n : ((r51.2 : Int) != 0) = true := by rw [bne, h63]; rfl
                        obtain rfl := sj h
                        try simp only [↓Da, Ua, Ra, Jt, Jc, J6, J2, Jf, Jo, Jz, Jg, Jn, J5c, J0e, *, ↓reduceIte, Nat.reduceEqDiff, Nat.reduceAdd, Nat.reduceLT, Nat.reduceMul, Nat.reduceBEq]
                        rfl
                    · try try rw [h4] at h62
                      obtain rfl := sj h
                      try simp only [↓Da, Ua, Ra, Jt, Jc, J6, J2, Jf, Jo, Jz, Jg, Jn, J5c, J0e, *, ↓reduceIte, Nat.reduceEqDiff, Nat.reduceAdd, Nat.reduceLT, Nat.reduceMul, Nat.reduceBEq]
                      rfl
                  · have h60n : ((r48.2 : Int) != 0) = true := by rw [bne, h60]; rfl
                    obtain rfl := sj h
                    try simp only [↓Da, Ua, Ra, Jt, Jc, J6, J2, Jf, Jo, Jz, Jg, Jn, J0e, *, ↓reduceIte, Nat.reduceEqDiff, Nat.reduceAdd, Nat.reduceLT, Nat.reduceMul, Nat.reduceBEq]
                    rfl
                · have h59n : ((r45.2 : Int) != 6) = true := by rw [bne, h59]; rfl
                  obtain rfl := sj h
                  try simp only [↓Da, Ua, Ra, Jt, Jc, J6, J2, Jf, Jo, Jz, Jg, Jn, J0e, *, ↓reduceIte, Nat.reduceEqDiff, Nat.reduceAdd, Nat.reduceLT, Nat.reduceMul, Nat.reduceBEq]
                  rfl
              · have h58n : ((r41.2 : Int) != 8) = true := by rw [bne, h58]; rfl
                obtain rfl := sj h
                try simp only [↓Da, Ua, Ra, Jt, Jc, J6, J2, Jf, Jo, Jz, Jg, Jn, J0e, *, ↓reduceIte, Nat.reduceEqDiff, Nat.reduceAdd, Nat.reduceLT, Nat.reduceMul, Nat.reduceBEq]
                rfl
            · have h57n : ((r34.2 : Int) != 8) = true := by rw [bne, h57]; rfl
              obtain rfl := sj h
              try simp only [↓Da, Ua, Ra, Jt, Jc, J6, J2, Jf, Jo, Jz, Jg, Jn, J0e, *, ↓reduceIte, Nat.reduceEqDiff, Nat.reduceAdd, Nat.reduceLT, Nat.reduceMul, Nat.reduceBEq]
              rfl
  · obtain rfl := sj h
    try simp only [↓Da, Ua, Ra, Jt, Jc, J6, J2, Jf, Jo, Jz, Jg, Jn, J0e, *, ↓reduceIte, Nat.reduceEqDiff, Nat.reduceAdd, Nat.reduceLT, Nat.reduceMul, Nat.reduceBEq]
    rfl
theorem JbX {x0 : List Int} {x1 : Int} {x2 : Int} {o : Bool} (h : J2W x0 x1 x2 = some o) : AF (J1 p) J4f [.p (.sl 1 (List.map (r_i .u8) x0)), .p (.i .u8 x1), .p (.i .u8 x2)] [] = J83 o :=
  (J14 (J1 p) (Jc1 p) rfl).trans (J9R p h)
def Jah (x0 : Ji) (x1 : Int) (x2 : Int) (x3 : List UInt8) : Option (T_api_Page × Int) :=
  Option.bind (Ja3 x0) fun r1 =>
  if r1 then
    if (decide (x1 < 0)) then
      some ((⟨0, 0, (Vector.replicate 16 (⟨false, []⟩ : J5))⟩ : T_api_Page), 1)
    else
      if (decide (x1 ≥ ((List.length x0.Rows : Nat) : Int))) then
        some ((⟨0, 0, (Vector.replicate 16 (⟨false, []⟩ : J5))⟩ : T_api_Page), 1)
      else
        if (decide (x2 < 0)) then
          some ((⟨0, 0, (Vector.replicate 16 (⟨false, []⟩ : J5))⟩ : T_api_Page), 1)
        else
          Option.bind (J8m x3 x1) fun r8 =>
          if ((r8.2 : Int) != 0) then
            some ((⟨0, 0, (Vector.replicate 16 (⟨false, []⟩ : J5))⟩ : T_api_Page), r8.2)
          else
            if (decide (r8.1.LSN > x2)) then
              Option.bind (idx x0.Rows x1) fun y13 =>
              if (decide (r8.1.LSN > y13.LSN)) then
                some ((⟨0, 0, (Vector.replicate 16 (⟨false, []⟩ : J5))⟩ : T_api_Page), 9)
              else
                if (decide (r8.1.LSN < y13.LSN)) then
                  some ((⟨0, 0, (Vector.replicate 16 (⟨false, []⟩ : J5))⟩ : T_api_Page), 8)
                else
                  some (r8.1, 0)
            else
              Option.bind (idx x0.Rows x1) fun y18 =>
              if (decide (r8.1.LSN < y18.LSN)) then
                some ((⟨0, 0, (Vector.replicate 16 (⟨false, []⟩ : J5))⟩ : T_api_Page), 8)
              else
                some (r8.1, 0)
  else
    some ((⟨0, 0, (Vector.replicate 16 (⟨false, []⟩ : J5))⟩ : T_api_Page), 28)
def J78 (x2 : Int) (x3 : Int) (x4 : List UInt8) (x14 : List UInt8) (x66 : List Ji) (x67 : Int) (x68 : Int) (x78 : List (List UInt8)) (x79 : Int) (x80 : Int) (b1 : T_pagemenddraw_Codes) (b3 : T_api_Page) (b4 : Ji) : Option (((Int × T_pagemenddraw_Codes) ⊕ (((Int × T_pagemenddraw_Codes) ⊕ (Bool))))) :=
  some (.inl ((IntKind.wrap .i64 (x80 + 1)), b1))
def J3m (x2 : Int) (x3 : Int) (x4 : List UInt8) (x14 : List UInt8) (x19 : List UInt8) (x66 : List Ji) (x67 : Int) (x68 : Int) (x78 : List (List UInt8)) (x79 : Int) (x80 : Int) (x101 : List (Vector Int 2)) (x102 : Int) (b1 : T_pagemenddraw_Codes) (b3 : T_api_Page) (b4 : Ji) (x103 : Int) : Option (((Int) ⊕ (((Int × T_pagemenddraw_Codes) ⊕ (((Int × T_pagemenddraw_Codes) ⊕ (Bool))))))) :=
  if (decide (x103 < x102)) then
    Option.bind (idx x101 x103) fun y2 =>
    Option.bind (inb 2 0) fun u5 =>
    Option.bind (J5i y2 0) fun y8 =>
    Option.bind (inb 2 1) fun u11 =>
    Option.bind (J5i y2 1) fun y14 =>
    Option.bind (JS b4 y8 y14 x19) fun r17 =>
    Option.bind (Jah b4 y8 y14 x19) fun r22 =>
    if (r17.1 == r22.1) then
      if ((r17.2 : Int) != r22.2) then
        some (.inr (.inr (.inr false)))
      else
        some (.inl (IntKind.wrap .i64 (x103 + 1)))
    else
      some (.inr (.inr (.inr false)))
  else
    Option.map (fun o => .inr o) (J78 x2 x3 x4 x14 x66 x67 x68 x78 x79 x80 b1 b3 b4)
def J77 (x2 : Int) (x3 : Int) (x4 : List UInt8) (x14 : List UInt8) (x19 : List UInt8) (x66 : List Ji) (x67 : Int) (x68 : Int) (x78 : List (List UInt8)) (x79 : Int) (x80 : Int) (x101 : List (Vector Int 2)) (x102 : Int) (b1 : T_pagemenddraw_Codes) (b3 : T_api_Page) (b4 : Ji) (s : Int) : Option (((Int × T_pagemenddraw_Codes) ⊕ (((Int × T_pagemenddraw_Codes) ⊕ (Bool))))) :=
  JQ (fun s => J3m x2 x3 x4 x14 x19 x66 x67 x68 x78 x79 x80 x101 x102 b1 b3 b4 s) s
def J74 (x2 : Int) (x3 : Int) (x4 : List UInt8) (x14 : List UInt8) (x66 : List Ji) (x67 : Int) (x68 : Int) (b1 : T_pagemenddraw_Codes) (b3 : T_api_Page) : Option (((Int × T_pagemenddraw_Codes) ⊕ (Bool))) :=
  some (.inl ((IntKind.wrap .i64 (x68 + 1)), b1))
def J3n (x2 : Int) (x3 : Int) (x4 : List UInt8) (x14 : List UInt8) (x66 : List Ji) (x67 : Int) (x68 : Int) (x78 : List (List UInt8)) (x79 : Int) (b3 : T_api_Page) (b4 : Ji) (x80 : Int) (b1 : T_pagemenddraw_Codes) : Option (((Int × T_pagemenddraw_Codes) ⊕ (((Int × T_pagemenddraw_Codes) ⊕ (Bool))))) :=
  if (decide (x80 < x79)) then
    Option.bind (idx x78 x80) fun y2 =>
    Option.bind (JR b1 60) fun r9 =>
    Option.bind (JR r9.2 6) fun r15 =>
    Option.bind (JR r15.2 60) fun r19 =>
    J77 x2 x3 x4 x14 y2 x66 x67 x68 x78 x79 x80 ([(#v[x2, x3] : Vector Int 2), (#v[b3.ID, x3] : Vector Int 2), (#v[b3.ID, r9.1] : Vector Int 2), (#v[r15.1, r19.1] : Vector Int 2)] : List (Vector Int 2)) ((List.length ([(#v[x2, x3] : Vector Int 2), (#v[b3.ID, x3] : Vector Int 2), (#v[b3.ID, r9.1] : Vector Int 2), (#v[r15.1, r19.1] : Vector Int 2)] : List (Vector Int 2)) : Nat) : Int) r19.2 b3 b4 0
  else
    Option.map (fun o => .inr o) (J74 x2 x3 x4 x14 x66 x67 x68 b1 b3)
def J76 (x2 : Int) (x3 : Int) (x4 : List UInt8) (x14 : List UInt8) (x66 : List Ji) (x67 : Int) (x68 : Int) (x78 : List (List UInt8)) (x79 : Int) (b3 : T_api_Page) (b4 : Ji) (s : Int × T_pagemenddraw_Codes) : Option (((Int × T_pagemenddraw_Codes) ⊕ (Bool))) :=
  JQ (fun s => J3n x2 x3 x4 x14 x66 x67 x68 x78 x79 b3 b4 s.1 s.2) s
def J79  : Option (Bool) :=
  some true
def J3o (x2 : Int) (x3 : Int) (x4 : List UInt8) (x14 : List UInt8) (x66 : List Ji) (x67 : Int) (b3 : T_api_Page) (x68 : Int) (b1 : T_pagemenddraw_Codes) : Option (((Int × T_pagemenddraw_Codes) ⊕ (Bool))) :=
  if (decide (x68 < x67)) then
    Option.bind (idx x66 x68) fun y2 =>
    Option.bind (J71 b1 x14) fun r5 =>
    Option.bind (J8j) fun r8 =>
    J76 x2 x3 x4 x14 x66 x67 x68 ([x4, x14, r5.1, r8] : List (List UInt8)) ((List.length ([x4, x14, r5.1, r8] : List (List UInt8)) : Nat) : Int) b3 y2 (0, r5.2)
  else
    Option.map (fun o => .inr o) (J79)
def Jav (x2 : Int) (x3 : Int) (x4 : List UInt8) (x14 : List UInt8) (x66 : List Ji) (x67 : Int) (b3 : T_api_Page) (s : Int × T_pagemenddraw_Codes) : Option (Bool) :=
  JQ (fun s => J3o x2 x3 x4 x14 x66 x67 b3 s.1 s.2) s
end
end Go.Am
end
section
end
section
namespace Go.Am
theorem J05 {n : Int} (h1 : -9223372036854775808 ≤ n) (h2 : n ≤ 9223372036854775807) : IntKind.i64.wrap n = n := by
  simp [IntKind.wrap_i64]; omega
theorem J7u {n : Int} (h1 : 0 ≤ n) (h2 : n < 18446744073709551616) : IntKind.u64.wrap n = n := by
  rw [show IntKind.u64.wrap n = n % 18446744073709551616 by simp [IntKind.wrap, IntKind.bits, IntKind.signed]]; omega
theorem JiS {α : Type} (l : List α) (k : Nat) : idx l (k : Int) = l[k]? := by simp [idx]
theorem J2G {α : Type} {n : Nat} (v : Vector α n) (k : Nat) (h : k < n) : J5i v (k : Int) = some v[k] := by
  have e : (0 : Int) ≤ k ∧ (k : Int) < n := by omega
  simp [J5i, e, h]
theorem J6L {n k : Nat} (h : k < n) : inb n (k : Int) = some () := by
  have e : (0 : Int) ≤ k ∧ (k : Int) < n := by omega
  simp [inb, e]
theorem J1l {k : Nat} (h : k < 1000000) : IntKind.i64.wrap ((k : Int) + 1) = ((k + 1 : Nat) : Int) := by
  rw [J05 (by omega) (by omega)]; simp
theorem J1i {σ ρ : Type} {f : σ → Option (σ ⊕ ρ)} (I : σ → Prop) (m : σ → Nat) (Q : ρ → Prop)
    (h : ∀ s, I s → (∃ s', f s = some (.inl s') ∧ I s' ∧ m s' < m s) ∨ (∃ r, f s = some (.inr r) ∧ Q r)) : ∀ s, I s → ∃ r, JQ f s = some r ∧ Q r := by
  have key : ∀ n s, m s ≤ n → I s → ∃ r, JQ f s = some r ∧ Q r := by
    intro n
    induction n with
    | zero =>
      intro s hm hs
      rcases h s hs with ⟨s', e, hs', hlt⟩ | ⟨r, e, hq⟩
      · omega
      · exact ⟨r, J2m e, hq⟩
    | succ n ih =>
      intro s hm hs
      rcases h s hs with ⟨s', e, hs', hlt⟩ | ⟨r, e, hq⟩
      · obtain ⟨r, hr, hq⟩ := ih s' (by omega) hs'
        exact ⟨r, (J34 e).trans hr, hq⟩
      · exact ⟨r, J2m e, hq⟩
  exact fun s hs => key (m s) s (Nat.le_refl _) hs
structure J0K (b : T_pagemenddraw_Codes) : Prop where
  at0 : 0 ≤ b.at_
  at1 : b.at_ ≤ b.l_.length
  len : b.l_.length ≤ 1000
  byte : ∀ x ∈ b.l_, 0 ≤ x ∧ x ≤ 255
theorem JhM {b : T_pagemenddraw_Codes} (hb : J0K b) {n : Int} (h1 : 1 ≤ n) (h2 : n ≤ 256) (m : Nat) : ∃ r b', J0Q (m + 1) b n = some (r, b') ∧ J0K b' ∧ 0 ≤ r ∧ r < n := by
  obtain ⟨ha, hb1, hl, hx⟩ := hb
  simp only [J0Q, J2h]
  by_cases hc : b.at_ ≥ (b.l_.length : Int)
  · exact ⟨0, b, by simp [hc], ⟨ha, hb1, hl, hx⟩, by omega, by omega⟩
  · obtain ⟨k, hk⟩ : ∃ k : Nat, b.at_ = (k : Int) := ⟨b.at_.toNat, by omega⟩
    have hk2 : k < b.l_.length := by omega
    have hy := hx _ (List.getElem_mem hk2)
    have e1 : ¬ n < 1 := by omega
    have e2 : ¬ n > 256 := by omega
    have e3 : idx b.l_ b.at_ = some b.l_[k] := by rw [hk, JiS, List.getElem?_eq_getElem hk2]
    have e4 : ¬ n = 0 := by omega
    refine ⟨(b.l_[k]).tmod n, ⟨b.l_, b.at_ + 1⟩, ?_, ⟨by show 0 ≤ b.at_ + 1; omega, by show b.at_ + 1 ≤ (b.l_.length : Int); omega, hl, hx⟩, Int.tmod_nonneg _ hy.1, Int.tmod_lt_of_pos _ (by omega)⟩
    simp only [hc, decide_false, e1, e2, e3, Option.bind_some, Jcb, e4, if_false, Bool.false_eq_true]
    rw [J05 (by omega) (by omega), J05 (by omega) (by omega)]
theorem J5p {b : T_pagemenddraw_Codes} (hb : J0K b) {n : Int} (h1 : 1 ≤ n) (h2 : n ≤ 256) : ∃ r b', JR b n = some (r, b') ∧ J0K b' ∧ 0 ≤ r ∧ r < n := JhM hb h1 h2 11
theorem JsD {l : List Int} (h : ∀ x ∈ l, 0 ≤ x ∧ x ≤ 255) {n : Nat} (hn : n ≤ 1000) : ∃ b, J5A l (n : Int) = some b ∧ J0K b := by
  unfold J5A J7k
  by_cases hc : (l.length : Int) > n
  · have : J22 l none (some (n : Int)) = some (l.take n) := by
      have e1 : (0 : Int) ≤ n ∧ n ≤ l.length := by omega
      have e2 : n ≤ l.length := by omega
      simp [J22, JeM, JbY, e2]
    refine ⟨⟨l.take n, 0⟩, by simp [hc, this], ⟨by show (0 : Int) ≤ 0; omega, by show (0 : Int) ≤ _; omega, by simp; omega, fun x hx => h x (List.mem_of_mem_take hx)⟩⟩
  · exact ⟨⟨l, 0⟩, by simp [hc], ⟨by show (0 : Int) ≤ 0; omega, by show (0 : Int) ≤ _; omega, by show l.length ≤ 1000; omega, h⟩⟩
theorem Jn7 {b : T_pagemenddraw_Codes} (hb : J0K b) {n : Int} (h0 : 0 ≤ n) (h1 : n ≤ 20) : ∃ s b', J2T n b = some (s, b') ∧ J0K b' := by
  have e0 : mkS 1 0 n (0 : Int) = some [] := by
    have : (0 : Int) ≤ n ∧ 1 * n ≤ 281474976710656 ∧ n ≤ 281474976710656 := by omega
    simp [mkS]; omega
  unfold J2T
  simp only [e0, Option.bind_some]
  obtain ⟨r, hr, hq⟩ := J1i (f := fun s : Int × T_pagemenddraw_Codes × List Int => J2j n s.1 s.2.1 s.2.2)
    (fun s => ∃ k : Nat, s.1 = k ∧ (k : Int) ≤ n ∧ J0K s.2.1 ∧ s.2.2.length = k) (fun s => (n - s.1).toNat) (fun r => J0K r.2)
    (fun s ⟨k, hk, hn, hc, hl⟩ => by
      obtain ⟨i, b, l⟩ := s
      simp only at hk hc hl
      subst hk
      by_cases hlt : (k : Int) < n
      · left
        obtain ⟨r, b', e1, hb', _, _⟩ := J5p hc (n := 3) (by omega) (by omega)
        have e2 : J8e (l.length + 1) 1 = true := by simp [J8e]; omega
        have e3 : ∀ z : Int, JlE 1 l [z] = some (l ++ [z]) := fun z => by simp only [JlE, List.length_cons, List.length_nil, Nat.zero_add, e2, if_true]
        refine ⟨⟨((k + 1 : Nat) : Int), b', l ++ [IntKind.wrap .u8 (IntKind.wrap .i64 (97 + r))]⟩, ?_, ⟨k + 1, rfl, by simp; omega, hb', by simp [hl]⟩, by simp; omega⟩
        simp only [J2j, hlt, decide_true, if_true, e1, e3, Option.bind_some, J1l (show k < 1000000 by omega)]
      · right
        refine ⟨(toStr l, b), ?_, hc⟩
        simp [J2j, J5g, hlt])
    (0, b, []) ⟨0, rfl, by simpa using h0, hb, rfl⟩
  exact ⟨r.1, r.2, hr, hq⟩
def JmV (c : J5) : Prop := c.Data.length ≤ 12 ∧ (c.Set = false → c.Data = [])
theorem Jog {b : T_pagemenddraw_Codes} (hb : J0K b) : ∃ c b', J3K b = some (c, b') ∧ J0K b' ∧ JmV c := by
  obtain ⟨r, b1, e1, hb1, _, _⟩ := J5p hb (n := 3) (by omega) (by omega)
  unfold J3K
  simp only [e1, Option.bind_some]
  by_cases h0 : r = 0
  · exact ⟨⟨false, []⟩, b1, by simp [h0], hb1, by simp [JmV]⟩
  · have hd : ∃ s b', J3I b1 = some (s, b') ∧ J0K b' := by
      unfold J3I
      obtain ⟨r1, b2, e2, hb2, h21, h22⟩ := J5p hb1 (n := 5) (by omega) (by omega)
      obtain ⟨r2, b3, e3, hb3, _, _⟩ := J5p hb2 (n := 6) (by omega) (by omega)
      simp only [e2, e3, Option.bind_some]
      by_cases h6 : r2 = 0
      · obtain ⟨r3, b4, e4, hb4, h41, h42⟩ := J5p hb3 (n := 14) (by omega) (by omega)
        obtain ⟨s, b5, e5, hb5⟩ := Jn7 hb4 h41 (by omega)
        exact ⟨s, b5, by simp [h6, e4, e5], hb5⟩
      · obtain ⟨s, b5, e5, hb5⟩ := Jn7 hb3 h21 (by omega)
        exact ⟨s, b5, by simp [h6, e5], hb5⟩
    obtain ⟨s, b2, e2, hb2⟩ := hd
    have e3 : J22 s none (some (Jho (s.length : Int) 12)) = some (s.take (min s.length 12)) := by
      have e4 : Jho (s.length : Int) 12 = ((min s.length 12 : Nat) : Int) := by unfold Jho; split <;> omega
      have e5 : min s.length 12 ≤ s.length := by omega
      rw [e4]
      simp only [J22, JeM, JbY]
      have e6 : (0 : Int) ≤ ((min s.length 12 : Nat) : Int) ∧ ((min s.length 12 : Nat) : Int) ≤ ((s.length : Nat) : Int) := by omega
      simp only [e6, and_self, if_true, Int.toNat_natCast, List.drop_zero, Nat.sub_zero]
    refine ⟨⟨true, s.take (min s.length 12)⟩, b2, ?_, hb2, ?_⟩
    · simp only [e2, Option.bind_some, e3]
      simp [h0]
    · refine ⟨?_, fun h => by cases h⟩
      simp only [List.length_take]; omega
def J3Y (lsn : Int) (c : J5) : Prop := c.Data.length ≤ 12 ∧ (c.Set = false → c.Data = []) ∧ (c.Set = true → lsn ≠ 0)
structure J3v (p : T_api_Page) : Prop where
  id0 : 0 ≤ p.ID
  id1 : p.ID < 64
  lsn0 : 0 ≤ p.LSN
  lsn1 : p.LSN ≤ 1099511627776
  cells : ∀ (i : Nat) (h : i < 16), J3Y p.LSN (p.Cells[i])
theorem JlU {id lsn : Int} (h0 : 0 ≤ id) (h1 : id < 64) (h2 : 0 ≤ lsn) (h3 : lsn ≤ 1099511627776) : J3v ⟨id, lsn, Vector.replicate 16 ⟨false, []⟩⟩ :=
  ⟨h0, h1, h2, h3, fun i h => by simp [J3Y]⟩
theorem JjB {b : T_pagemenddraw_Codes} (hb : J0K b) {id : Int} (h0 : 0 ≤ id) (h1 : id < 64) : ∃ p b', J2H b id = some (p, b') ∧ J0K b' ∧ J3v p ∧ p.ID = id := by
  have go : ∀ (b : T_pagemenddraw_Codes) (lsn : Int) (b1 : T_api_Page), J0K b → 0 ≤ lsn → lsn ≤ 1099511627776 →
      ∃ p b', J2V b b1 ⟨id, lsn, Vector.replicate 16 ⟨false, []⟩⟩ = some (p, b') ∧ J0K b' ∧ J3v p ∧ p.ID = id := by
    intro b lsn b1 hb hl0 hl1
    unfold J2V
    by_cases hl : lsn > 0
    · obtain ⟨r, b2, e1, hb2, hr0, hr1⟩ := J5p hb (n := 6) (by omega) (by omega)
      obtain ⟨o, ho, hq⟩ := J1i (f := fun s : Int × T_pagemenddraw_Codes × T_api_Page => J2g b1 s.1 s.2.1 s.2.2)
        (fun s => 0 ≤ s.1 ∧ s.1 ≤ 6 ∧ J0K s.2.1 ∧ J3v s.2.2 ∧ s.2.2.ID = id ∧ s.2.2.LSN = lsn) (fun s => s.1.toNat) (fun r => J0K r.2 ∧ J3v r.1 ∧ r.1.ID = id)
        (fun s ⟨i0, i1, hc, hp, hid, hlsn⟩ => by
          obtain ⟨i, b, p⟩ := s
          simp only at i0 i1 hc hp hid hlsn
          by_cases hi : i > 0
          · left
            obtain ⟨r, b2, e1, hb2, hr0, hr1⟩ := J5p hc (n := 16) (by omega) (by omega)
            obtain ⟨c, b3, e2, hb3, hcf⟩ := Jog hb2
            obtain ⟨k, rfl⟩ : ∃ k : Nat, r = (k : Int) := ⟨r.toNat, by omega⟩
            have hk : k < 16 := by omega
            refine ⟨⟨i - 1, b3, ⟨p.ID, p.LSN, J7s p.Cells (k : Int) c⟩⟩, ?_, ⟨by show 0 ≤ i - 1; omega, by show i - 1 ≤ 6; omega, hb3, ?_, hid, hlsn⟩, by show (i - 1).toNat < i.toNat; omega⟩
            · simp only [J2g, hi, decide_true, if_true, e1, e2, Option.bind_some, J6L hk, J2G _ k hk, J05 (show -9223372036854775808 ≤ i - 1 by omega) (by omega)]
            · refine ⟨hp.id0, hp.id1, hp.lsn0, hp.lsn1, fun j hj => ?_⟩
              show J3Y p.LSN ((J7s p.Cells (k : Int) c)[j])
              simp only [J7s, Int.toNat_natCast, Vector.getElem_setIfInBounds]
              split
              · exact ⟨hcf.1, hcf.2, fun _ => by rw [hlsn]; omega⟩
              · exact hp.cells j hj
          · right
            exact ⟨(p, b), by simp [J2g, J2S, hi], hc, hp, hid⟩)
        (r, b2, ⟨id, lsn, Vector.replicate 16 ⟨false, []⟩⟩) ⟨hr0, by show r ≤ 6; omega, hb2, JlU h0 h1 hl0 hl1, rfl, rfl⟩
      refine ⟨o.1, o.2, ?_, hq.1, hq.2⟩
      simp only [hl, decide_true, if_true, e1, Option.bind_some]
      exact ho
    · exact ⟨_, b, by simp [hl, J2S], hb, JlU h0 h1 hl0 hl1, rfl⟩
  obtain ⟨r, b1, e1, hb1, hr0, hr1⟩ := J5p hb (n := 50) (by omega) (by omega)
  obtain ⟨r2, b2, e2, hb2, _, _⟩ := J5p hb1 (n := 10) (by omega) (by omega)
  unfold J2H
  simp only [e1, e2, Option.bind_some]
  by_cases h9 : r2 = 9
  · obtain ⟨r3, b3, e3, hb3, h30, h31⟩ := J5p hb2 (n := 2) (by omega) (by omega)
    have e4 : IntKind.wrap .i64 (1099511627776 - r3) = 1099511627776 - r3 := J05 (by omega) (by omega)
    simp only [h9, e3, Option.bind_some, e4]
    exact go b3 _ _ hb3 (by omega) (by omega)
  · have e5 : ((r2 : Int) == 9) = false := by simpa using h9
    simp only [e5, Bool.false_eq_true, if_false]
    exact go b2 _ _ hb2 (by omega) (by omega)
end Go.Am
end
