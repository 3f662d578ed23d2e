/-
  Parts of a proof.
-/
import Derived.Test.YtiallbcnaadmoaaM10
open Nat (reduceEqDiff reduceAdd reduceLT reduceMul)
set_option linter.unusedSimpArgs false
set_option linter.unusedVariables false
section
namespace Go.Am
set_option maxRecDepth 8000
set_option maxHeartbeats 4000000
set_option linter.unusedSimpArgs false
set_option linter.unusedVariables false
noncomputable section
variable (p : PS)
def Jcv  (r : T_api_Image × Int) : Option Res := some (.tup [.data (J7 r.1), .p (.i .i64 r.2)], [])
def J5Y (x1 : Int) (x2 : List UInt8) (x10 b0_0 b0_1 : Int) (b1 : T_api_Image) (b2 : T_api_Page) (l3 : List T_api_Copy) : Option (T_api_Image × Int) :=
 Option.bind (idx l3 x10) fun y1 =>
 Option.bind (some (List.set l3 (Int.toNat x10) (⟨x1, b2.LSN, x2⟩ : T_api_Copy))) fun m5 =>
 some ((⟨b0_0, b0_1, m5⟩ : T_api_Image), 0)
theorem Je0 {x1 : Int} {x2 : List UInt8} {x10 b0_0 b0_1 : Int} {b1 : T_api_Image} {b2 : T_api_Page} {l3 : List T_api_Copy} {o : T_api_Image × Int} (h : J5Y x1 x2 x10 b0_0 b0_1 b1 b2 l3 = some o) :
  rk (J2 p) J6E 0 [] (X (J2 p) Jb0 ⟨[(1, .p (.i .i64 x1)), (2, .p (.s x2)), (3, .ptr 0 0), (6, .ptr 1 0), (8, .ptr 2 0), (10, .p (.i .i64 x10))], [.box [.p (.i .i64 b0_0), .p (.i .i64 b0_1), .slr 3 0 (List.length l3)], .box (List.map AV.p (J7 b1)), .box (List.map AV.p (J4 b2)), .arr true 3 (List.map J6 l3)]⟩) = Jcv o := by
 unfold J5Y at h
 obtain ⟨y1, h2, h⟩ := bi h
 have f3 := JgU (r := J6) h2
 try simp only [Nf, Jt, J05, Jw] at f3
 have f4 : (0 ≤ (x10 : Int) ∧ (x10 : Int) < (((List.length l3) : Nat) : Int)) = True := eq_true (by have e0 := JiV h2; (try simp only [List.length_cons, List.length_nil, Nat.zero_add] at e0); omega)
 obtain ⟨m5, h6, h⟩ := bi h
 have f7 : List.set (List.map J6 l3) (Int.toNat x10) (J6 (⟨x1, b2.LSN, x2⟩ : T_api_Copy)) = List.map J6 m5 := by
  rw [← Option.some.inj h6, List.map_set]
 try simp only [Nf, Jt, J05, Jw] at f7
 have g8 : List.length m5 = List.length l3 := by rw [← Option.some.inj h6, List.length_set]
 obtain rfl := sj h
 try simp only [↓Da, Ua, Jb0, Jt, J05, J1, J3, Jw, J91, *, ↓reduceIte, reduceEqDiff, reduceAdd, reduceLT, reduceMul]
 rfl
def J0Q (x0 : T_api_Image) (x1 : Int) (x2 : List UInt8) : Option (T_api_Image × Int) :=
 Option.bind (J12 x0) fun r1 =>
 if r1 then
  if (decide (x1 < 0)) then
   some ((⟨0, 0, ([] : List T_api_Copy)⟩ : T_api_Image), 1)
  else
   if (decide (x1 ≥ x0.Pages)) then
    some ((⟨0, 0, ([] : List T_api_Copy)⟩ : T_api_Image), 1)
   else
    Option.bind (J0v x2 x1) fun r7 =>
    if ((r7.2 : Int) != 0) then
     some ((⟨0, 0, ([] : List T_api_Copy)⟩ : T_api_Image), r7.2)
    else
     Option.bind (J4k x0 x1) fun r11 =>
     Option.bind (J1l x0.Copies) fun r14 =>
     if r11.2 then
      J5Y x1 x2 r11.1 x0.ID x0.Pages (⟨0, 0, ([] : List T_api_Copy)⟩ : T_api_Image) r7.1 r14
     else
      Option.bind (J1b r14 r11.1 ([(⟨0, 0, ([] : List UInt8)⟩ : T_api_Copy)] : List T_api_Copy)) fun r18 =>
      J5Y x1 x2 r11.1 x0.ID x0.Pages (⟨0, 0, ([] : List T_api_Copy)⟩ : T_api_Image) r7.1 r18
 else
  some ((⟨0, 0, ([] : List T_api_Copy)⟩ : T_api_Image), 43)
theorem JiC {x0 : T_api_Image} {x1 : Int} {x2 : List UInt8} {o : T_api_Image × Int} (h : J0Q x0 x1 x2 = some o) :
  rk (J2 p) J6E 0 [] (X (J2 p) J1J ⟨[(0, .data (J7 x0)), (1, .p (.i .i64 x1)), (2, .p (.s x2))], []⟩) = Jcv o := by
 unfold J0Q at h
 obtain ⟨r1, h2, h⟩ := bi h
 have f3 := J9j p h2
 try simp only [Nf, Jt, J05, Jw] at f3
 try simp only [↓Da, Ua, J1J, Jt, J05, J1, J3, Jw, *, ↓reduceIte, reduceEqDiff, reduceAdd, reduceLT, reduceMul]
 rcases Jb h with ⟨h4, h⟩ | ⟨h4, h⟩
 ·try simp only [↓Da, Ua, J1J, Jt, J05, J1, J3, Jw, *, ↓reduceIte, reduceEqDiff, reduceAdd, reduceLT, reduceMul]
  rcases Jb h with ⟨h5, h⟩ | ⟨h5, h⟩
  ·obtain rfl := sj h
   try simp only [↓Da, Ua, J1J, Jt, J05, J1, J3, Jw, J91, *, ↓reduceIte, reduceEqDiff, reduceAdd, reduceLT, reduceMul]
   rfl
  ·try simp only [↓Da, Ua, J1J, Jt, J05, J1, J3, Jw, *, ↓reduceIte, reduceEqDiff, reduceAdd, reduceLT, reduceMul]
   rcases Jb h with ⟨h6, h⟩ | ⟨h6, h⟩
   ·obtain rfl := sj h
    try simp only [↓Da, Ua, J1J, Jt, J05, J1, J3, Jw, J91, *, ↓reduceIte, reduceEqDiff, reduceAdd, reduceLT, reduceMul]
    rfl
   ·obtain ⟨r7, h8, h⟩ := bi h
    have f9 := Ja4 p h8
    try simp only [Nf, Jt, J05, Jw] at f9
    try simp only [↓Da, Ua, J1J, Jt, J05, J1, J3, Jw, *, ↓reduceIte, reduceEqDiff, reduceAdd, reduceLT, reduceMul]
    rcases Jb h with ⟨h10, h⟩ | ⟨h10, h⟩
    ·obtain rfl := sj h
     try simp only [↓Da, Ua, J1J, Jt, J05, J1, J3, Jw, J91, *, ↓reduceIte, reduceEqDiff, reduceAdd, reduceLT, reduceMul]
     rfl
    ·obtain ⟨r11, h12, h⟩ := bi h
     have f13 := Je8 p h12
     try simp only [Nf, Jt, J05, Jw] at f13
     obtain ⟨r14, h15, h⟩ := bi h
     have f16 : ∀ ws new s, (Jj (AF (J2 p)) J0E ([.p (.sl 3 (List.map J6 x0.Copies))], ws) 1 new).run s = some ⟨.slr new 0 (List.length r14), ws ++ [(new, .arr true 3 (List.map J6 r14))]⟩ := Jp7 rfl (J9w p h15)
     try simp only [Nf, Jt, J05, Jw] at f16
     try simp only [↓Da, Ua, J1J, Jt, J05, J1, J3, Jw, *, ↓reduceIte, reduceEqDiff, reduceAdd, reduceLT, reduceMul]
     rcases Jb h with ⟨h17, h⟩ | ⟨h17, h⟩
     ·try try rw [h4] at h17
      try simp only [↓Da, Ua, J1J, Jt, J05, J1, J3, Jw, *, ↓reduceIte, reduceEqDiff, reduceAdd, reduceLT, reduceMul]
      have e0 := Je0 p h
      first | exact e0 | (simp only [*] at e0; exact e0)
     ·try try rw [h4] at h17
      obtain ⟨r18, h19, h⟩ := bi h
      have f20 : ∀ ws new s, (J6H ws 3).run s = some (.arr true 3 (List.map J6 r14)) → (J6H ws 4).run s = some (.arr true 3 (List.map J6 ([(⟨0, 0, ([] : List UInt8)⟩ : T_api_Copy)] : List T_api_Copy))) → (J3f (AF (J2 p)) J19 ([.slr 3 0 (List.length r14), .p (.i .i64 r11.1), .slr 4 0 1], ws) 0 new).run s = some ⟨.slr 3 0 (List.length r18), ws ++ [(3, .arr true 3 (List.map J6 r18)), (4, .arr true 3 (List.map J6 ([(⟨0, 0, ([] : List UInt8)⟩ : T_api_Copy)] : List T_api_Copy)))]⟩ := fun ws new s h1 h2 => JmX rfl rfl (by first | rfl | simp [ren.renL, ren, J3m]) (J94 p h19) (fun _ => rfl) ws new s h1 h2
      try simp only [Nf, Jt, J05, Jw] at f20
      try simp only [↓Da, Ua, J1J, Jt, J05, J1, J3, Jw, *, ↓reduceIte, reduceEqDiff, reduceAdd, reduceLT, reduceMul]
      have e0 := Je0 p h
      first | exact e0 | (simp only [*] at e0; exact e0)
 ·obtain rfl := sj h
  try simp only [↓Da, Ua, J1J, Jt, J05, J1, J3, Jw, J91, *, ↓reduceIte, reduceEqDiff, reduceAdd, reduceLT, reduceMul]
  rfl
theorem JnH {x0 : T_api_Image} {x1 : Int} {x2 : List UInt8} {o : T_api_Image × Int} (h : J0Q x0 x1 x2 = some o) : AF (J2 p) J4N [.data (J7 x0), .p (.i .i64 x1), .p (.s x2)] [] = Jcv o :=
 (J0r (J2 p) (Jne p) rfl).trans (JiC p h)
theorem JaB {x0 : T_api_Image} {x1 : Int} {x2 : List UInt8} {o : T_api_Image × Int} (h : J0Q x0 x1 x2 = some o) : ∀ ws new st, (Jj (AF (J2 p)) J4N ([.data (J7 x0), .p (.i .i64 x1), .p (.s x2)], ws) 0 new).run st = some ⟨.tup [.data (J7 o.1), .p (.i .i64 o.2)], ws⟩ := Jx rfl (JnH p h) rfl
def Jfj  (r : T_api_Copy × Bool) : Option Res := some (.tup [.data (J6 r.1), .p (.b r.2)], [])
def J3Z (x0 : T_api_Image) (x1 : Int) : Option (T_api_Copy × Bool) :=
 Option.bind (J12 x0) fun r1 =>
 if r1 then
  if (decide (x1 < 0)) then
   some ((⟨0, 0, ([] : List UInt8)⟩ : T_api_Copy), false)
  else
   if (decide (x1 ≥ x0.Pages)) then
    some ((⟨0, 0, ([] : List UInt8)⟩ : T_api_Copy), false)
   else
    Option.bind (J4k x0 x1) fun r7 =>
    if r7.2 then
     Option.bind (idx x0.Copies r7.1) fun y11 =>
     some (y11, true)
    else
     some ((⟨0, 0, ([] : List UInt8)⟩ : T_api_Copy), false)
 else
  some ((⟨0, 0, ([] : List UInt8)⟩ : T_api_Copy), false)
theorem Jhc {x0 : T_api_Image} {x1 : Int} {o : T_api_Copy × Bool} (h : J3Z x0 x1 = some o) :
  rk (J2 p) J6Y 0 [] (X (J2 p) J1X ⟨[(0, .data (J7 x0)), (1, .p (.i .i64 x1))], []⟩) = Jfj o := by
 unfold J3Z at h
 obtain ⟨r1, h2, h⟩ := bi h
 have f3 := J9j p h2
 try simp only [Nf] at f3
 try simp only [↓Da, Ua, J1X, J9, J8, *, ↓reduceIte, reduceEqDiff, reduceAdd, reduceLT, reduceMul]
 rcases Jb h with ⟨h4, h⟩ | ⟨h4, h⟩
 ·try simp only [↓Da, Ua, J1X, J9, J8, *, ↓reduceIte, reduceEqDiff, reduceAdd, reduceLT, reduceMul]
  rcases Jb h with ⟨h5, h⟩ | ⟨h5, h⟩
  ·obtain rfl := sj h
   try simp only [↓Da, Ua, J1X, J9, J8, J8d, *, ↓reduceIte, reduceEqDiff, reduceAdd, reduceLT, reduceMul]
   rfl
  ·try simp only [↓Da, Ua, J1X, J9, J8, *, ↓reduceIte, reduceEqDiff, reduceAdd, reduceLT, reduceMul]
   rcases Jb h with ⟨h6, h⟩ | ⟨h6, h⟩
   ·obtain rfl := sj h
    try simp only [↓Da, Ua, J1X, J9, J8, J8d, *, ↓reduceIte, reduceEqDiff, reduceAdd, reduceLT, reduceMul]
    rfl
   ·obtain ⟨r7, h8, h⟩ := bi h
    have f9 := Je8 p h8
    try simp only [Nf] at f9
    try simp only [↓Da, Ua, J1X, J9, J8, *, ↓reduceIte, reduceEqDiff, reduceAdd, reduceLT, reduceMul]
    rcases Jb h with ⟨h10, h⟩ | ⟨h10, h⟩
    ·obtain ⟨y11, h12, h⟩ := bi h
     have f13 := J4t (r := J6) h12
     try simp only [Nf] at f13
     obtain rfl := sj h
     try simp only [↓Da, Ua, J1X, J9, J8, J8d, *, ↓reduceIte, reduceEqDiff, reduceAdd, reduceLT, reduceMul]
     rfl
    ·obtain rfl := sj h
     try simp only [↓Da, Ua, J1X, J9, J8, J8d, *, ↓reduceIte, reduceEqDiff, reduceAdd, reduceLT, reduceMul]
     rfl
 ·obtain rfl := sj h
  try simp only [↓Da, Ua, J1X, J9, J8, J8d, *, ↓reduceIte, reduceEqDiff, reduceAdd, reduceLT, reduceMul]
  rfl
theorem Jm7 {x0 : T_api_Image} {x1 : Int} {o : T_api_Copy × Bool} (h : J3Z x0 x1 = some o) : AF (J2 p) J4Q [.data (J7 x0), .p (.i .i64 x1)] [] = Jfj o :=
 (J0r (J2 p) (Jm6 p) rfl).trans (Jhc p h)
theorem JbJ {x0 : T_api_Image} {x1 : Int} {o : T_api_Copy × Bool} (h : J3Z x0 x1 = some o) : ∀ ws new st, (Jj (AF (J2 p)) J4Q ([.data (J7 x0), .p (.i .i64 x1)], ws) 0 new).run st = some ⟨.tup [.data (J6 o.1), .p (.b o.2)], ws⟩ := Jx rfl (Jm7 p h) rfl
def J5V  (r : Bool) : Option Res := some (.p (.b r), [])
def Jie (b0 : T_api_Image) (o : (Int) ⊕ (Bool)) : Option Res := match o with
 | .inl s => rk (J2 p) J2g 0 [.bl 0, .td 1 [2], .sq (.keep [] J45)] (X (J2 p) (.lp 1 [1, 3] JO) ⟨[(1, .ptr 0 0), (3, .p (.i .i64 s))], [.box (List.map AV.p (J7 b0))]⟩)
 | .inr o => J5V o
def Ja6  : Option (Bool) :=
 some true
theorem JhZ {B0 : List PV} {o : Bool} (h : Ja6 = some o) :
  rk (J2 p) J2g 0 [] (X (J2 p) J45 ⟨[], [.box (List.map AV.p B0)]⟩) = J5V o := by
 unfold Ja6 at h
 obtain rfl := sj h
 try simp only [↓Da, Ua, J45, J1V, ↓reduceIte, reduceEqDiff, reduceAdd, reduceLT, reduceMul]
 rfl
def J37 (b0 : T_api_Image) (x3 : Int) : Option (((Int) ⊕ (Bool))) :=
 if (decide (x3 < ((List.length b0.Copies : Nat) : Int))) then
  Option.bind (idx b0.Copies x3) fun y2 =>
  if (decide (y2.Page < 0)) then
   some (.inr false)
  else
   if (decide (y2.Page ≥ b0.Pages)) then
    some (.inr false)
   else
    if (decide (x3 > 0)) then
     Option.bind (idx b0.Copies (IntKind.wrap .i64 (x3 - 1))) fun y8 =>
     if (decide (y8.Page ≥ y2.Page)) then
      some (.inr false)
     else
      Option.bind (J1H y2.Data y2.Page) fun r12 =>
      if ((r12.2 : Int) != 0) then
       some (.inr false)
      else
       if ((r12.1.LSN : Int) != y2.LSN) then
        some (.inr false)
       else
        some (.inl (IntKind.wrap .i64 (x3 + 1)))
    else
     Option.bind (J1H y2.Data y2.Page) fun r17 =>
     if ((r17.2 : Int) != 0) then
      some (.inr false)
     else
      if ((r17.1.LSN : Int) != y2.LSN) then
       some (.inr false)
      else
       some (.inl (IntKind.wrap .i64 (x3 + 1)))
 else
  Option.map (fun o => .inr o) (Ja6)
theorem Jck {b0 : T_api_Image} {x3 : Int} {o : ((Int) ⊕ (Bool))} (h : J37 b0 x3 = some o) :
  rk (J2 p) J2g 0 [.lo 1 [1, 3] JO, .bl 0, .td 1 [2], .sq (.keep [] J45)] (X (J2 p) JO ⟨[(1, .ptr 0 0), (3, .p (.i .i64 x3))], [.box (List.map AV.p (J7 b0))]⟩) = (Jie p b0) o := by
 unfold J37 at h
 rcases Jb h with ⟨h1, h⟩ | ⟨h1, h⟩
 ·obtain ⟨y2, h3, h⟩ := bi h
  have f4 := J4t (r := J6) h3
  try simp only [Nf] at f4
  try simp only [↓Da, Ua, JO, J9, J5, J1, J3, J8, *, ↓reduceIte, reduceEqDiff, reduceAdd, reduceLT, reduceMul]
  rcases Jb h with ⟨h5, h⟩ | ⟨h5, h⟩
  ·obtain rfl := sj h
   try simp only [↓Da, Ua, JO, J9, J5, J1, J3, J8, J1V, *, ↓reduceIte, reduceEqDiff, reduceAdd, reduceLT, reduceMul]
   rfl
  ·try simp only [↓Da, Ua, JO, J9, J5, J1, J3, J8, *, ↓reduceIte, reduceEqDiff, reduceAdd, reduceLT, reduceMul]
   rcases Jb h with ⟨h6, h⟩ | ⟨h6, h⟩
   ·obtain rfl := sj h
    try simp only [↓Da, Ua, JO, J9, J5, J1, J3, J8, J1V, *, ↓reduceIte, reduceEqDiff, reduceAdd, reduceLT, reduceMul]
    rfl
   ·try simp only [↓Da, Ua, JO, J9, J5, J1, J3, J8, *, ↓reduceIte, reduceEqDiff, reduceAdd, reduceLT, reduceMul]
    rcases Jb h with ⟨h7, h⟩ | ⟨h7, h⟩
    ·obtain ⟨y8, h9, h⟩ := bi h
     have f10 := J4t (r := J6) h9
     try simp only [Nf] at f10
     try simp only [↓Da, Ua, JO, J9, J5, J1, J3, J8, *, ↓reduceIte, reduceEqDiff, reduceAdd, reduceLT, reduceMul]
     rcases Jb h with ⟨h11, h⟩ | ⟨h11, h⟩
     ·obtain rfl := sj h
      try simp only [↓Da, Ua, JO, J9, J5, J1, J3, J8, J1V, *, ↓reduceIte, reduceEqDiff, reduceAdd, reduceLT, reduceMul]
      rfl
     ·obtain ⟨r12, h13, h⟩ := bi h
      have f14 := J9l p h13
      try simp only [Nf] at f14
      try simp only [↓Da, Ua, JO, J9, J5, J1, J3, J8, *, ↓reduceIte, reduceEqDiff, reduceAdd, reduceLT, reduceMul]
      rcases Jb h with ⟨h15, h⟩ | ⟨h15, h⟩
      ·obtain rfl := sj h
       try simp only [↓Da, Ua, JO, J9, J5, J1, J3, J8, J1V, *, ↓reduceIte, reduceEqDiff, reduceAdd, reduceLT, reduceMul]
       rfl
      ·try simp only [↓Da, Ua, JO, J9, J5, J1, J3, J8, *, ↓reduceIte, reduceEqDiff, reduceAdd, reduceLT, reduceMul]
       rcases Jb h with ⟨h16, h⟩ | ⟨h16, h⟩
       ·obtain rfl := sj h
        try simp only [↓Da, Ua, JO, J9, J5, J1, J3, J8, J1V, *, ↓reduceIte, reduceEqDiff, reduceAdd, reduceLT, reduceMul]
        rfl
       ·obtain rfl := sj h
        try simp only [↓Da, Ua, JO, J9, J5, J1, J3, J8, *, ↓reduceIte, reduceEqDiff, reduceAdd, reduceLT, reduceMul]
        rfl
    ·obtain ⟨r17, h18, h⟩ := bi h
     have f19 := J9l p h18
     try simp only [Nf] at f19
     try simp only [↓Da, Ua, JO, J9, J5, J1, J3, J8, *, ↓reduceIte, reduceEqDiff, reduceAdd, reduceLT, reduceMul]
     rcases Jb h with ⟨h20, h⟩ | ⟨h20, h⟩
     ·obtain rfl := sj h
      try simp only [↓Da, Ua, JO, J9, J5, J1, J3, J8, J1V, *, ↓reduceIte, reduceEqDiff, reduceAdd, reduceLT, reduceMul]
      rfl
     ·try simp only [↓Da, Ua, JO, J9, J5, J1, J3, J8, *, ↓reduceIte, reduceEqDiff, reduceAdd, reduceLT, reduceMul]
      rcases Jb h with ⟨h21, h⟩ | ⟨h21, h⟩
      ·obtain rfl := sj h
       try simp only [↓Da, Ua, JO, J9, J5, J1, J3, J8, J1V, *, ↓reduceIte, reduceEqDiff, reduceAdd, reduceLT, reduceMul]
       rfl
      ·obtain rfl := sj h
       try simp only [↓Da, Ua, JO, J9, J5, J1, J3, J8, *, ↓reduceIte, reduceEqDiff, reduceAdd, reduceLT, reduceMul]
       rfl
 ·obtain ⟨o', h', rfl⟩ := mi h
  try simp only [↓Da, Ua, JO, J9, J5, J1, J3, J8, *, ↓reduceIte, reduceEqDiff, reduceAdd, reduceLT, reduceMul]
  have e0 := JhZ p (B0 := (J7 b0)) h'
  exact e0
def J85 (b0 : T_api_Image) (s : Int) : Option (Bool) :=
 Ju (fun s => J37 b0 s) s
theorem Jgb {b0 : T_api_Image} {s : Int} {o : Bool} (h : J85 b0 s = some o) :
  rk (J2 p) J2g 0 [.bl 0, .td 1 [2], .sq (.keep [] J45)] (X (J2 p) (.lp 1 [1, 3] JO) ⟨[(1, .ptr 0 0), (3, .p (.i .i64 s))], [.box (List.map AV.p (J7 b0))]⟩) = J5V o := by
 have h0 : Ju (fun s => J37 b0 s) s = some o := h
 exact J0m (P := fun (s : Int) (o : Bool) => rk (J2 p) J2g 0 [.bl 0, .td 1 [2], .sq (.keep [] J45)] (X (J2 p) (.lp 1 [1, 3] JO) ⟨[(1, .ptr 0 0), (3, .p (.i .i64 s))], [.box (List.map AV.p (J7 b0))]⟩) = J5V o) (fun s r hs => by rw [J0q]; exact Jck p hs) (fun s s1 r hs ih => by rw [J0q]; exact (Jck p hs).trans ih) h0
def J5b (x0 : T_api_Image) : Option (Bool) :=
 if (decide (x0.ID < 1)) then
  some false
 else
  if (decide (x0.ID > 1073741824)) then
   some false
  else
   if (decide (x0.Pages < 1)) then
    some false
   else
    if (decide (x0.Pages > 64)) then
     some false
    else
     J85 x0 0
theorem Jga {x0 : T_api_Image} {o : Bool} (h : J5b x0 = some o) :
  rk (J2 p) J2g 0 [] (X (J2 p) J1U ⟨[(0, .data (J7 x0))], []⟩) = J5V o := by
 unfold J5b at h
 rcases Jb h with ⟨h1, h⟩ | ⟨h1, h⟩
 ·obtain rfl := sj h
  try simp only [↓Da, Ua, J1U, J9, J8, J1V, *, ↓reduceIte, reduceEqDiff, reduceAdd, reduceLT, reduceMul]
  rfl
 ·try simp only [↓Da, Ua, J1U, J9, J8, *, ↓reduceIte, reduceEqDiff, reduceAdd, reduceLT, reduceMul]
  rcases Jb h with ⟨h2, h⟩ | ⟨h2, h⟩
  ·obtain rfl := sj h
   try simp only [↓Da, Ua, J1U, J9, J8, J1V, *, ↓reduceIte, reduceEqDiff, reduceAdd, reduceLT, reduceMul]
   rfl
  ·try simp only [↓Da, Ua, J1U, J9, J8, *, ↓reduceIte, reduceEqDiff, reduceAdd, reduceLT, reduceMul]
   rcases Jb h with ⟨h3, h⟩ | ⟨h3, h⟩
   ·obtain rfl := sj h
    try simp only [↓Da, Ua, J1U, J9, J8, J1V, *, ↓reduceIte, reduceEqDiff, reduceAdd, reduceLT, reduceMul]
    rfl
   ·try simp only [↓Da, Ua, J1U, J9, J8, *, ↓reduceIte, reduceEqDiff, reduceAdd, reduceLT, reduceMul]
    rcases Jb h with ⟨h4, h⟩ | ⟨h4, h⟩
    ·obtain rfl := sj h
     try simp only [↓Da, Ua, J1U, J9, J8, J1V, *, ↓reduceIte, reduceEqDiff, reduceAdd, reduceLT, reduceMul]
     rfl
    ·try simp only [↓Da, Ua, J1U, J9, J8, *, ↓reduceIte, reduceEqDiff, reduceAdd, reduceLT, reduceMul]
     have e0 := Jgb p h
     exact e0
theorem JkY {x0 : T_api_Image} {o : Bool} (h : J5b x0 = some o) : AF (J2 p) J5T [.data (J7 x0)] [] = J5V o :=
 (J0r (J2 p) (Jkl p) rfl).trans (Jga p h)
theorem Jld {x0 : T_api_Image} {o : Bool} (h : J5b x0 = some o) : ∀ ws new st, (Jj (AF (J2 p)) J5T ([.data (J7 x0)], ws) 0 new).run st = some ⟨.p (.b o), ws⟩ := Jx rfl (JkY p h) rfl
def J6K  (r : T_api_Image × Int) : Option Res := some (.tup [.data (J7 r.1), .p (.i .i64 r.2)], [])
def JaY (x1 : Int) (b0 : T_api_Image) (l1 : List T_api_Copy) (b2_0 b2_1 : Int) (b4 : T_api_Copy) (b7_0 b7_1 : Int) (B3 : List PV) (B6 : List (List PV)) (w1 w5 w6 : Bool) (o : (Bool × Int × (List T_api_Copy)) ⊕ (T_api_Image × Int)) : Option Res := match o with
 | .inl s => rk (J2 p) J24 0 [.bl 0, .sq (.keep [6, 10, 11, 12] J2L)] (X (J2 p) (.lp 8 [1, 3, 6, 10, 11, 12, 13] J1j) ⟨[(1, .p (.i .i64 x1)), (3, .ptr 0 0), (6, .ptr 2 0), (10, .ptr 4 0), (11, .ptr 7 0), (12, .p (.b s.1)), (13, .p (.i .i64 s.2.1))], [.box (List.map AV.p (J7 b0)), .arr w1 3 (List.map J6 l1), .box [.p (.i .i64 b2_0), .p (.i .i64 b2_1), .slr 1 0 (List.length l1)], .box (List.map AV.p B3), .box (List.map AV.p (J6 b4)), .arr w5 3 (List.map J6 s.2.2), .arr w6 3 B6, .box [.p (.i .i64 b7_0), .p (.i .i64 b7_1), .slr 5 0 (List.length s.2.2)]]⟩)
 | .inr o => J6K o
def J4q (x1 : Int) (x12 : Bool) (x13 : Int) (b0 : T_api_Image) (l1 : List T_api_Copy) (b2_0 b2_1 : Int) (b4 : T_api_Copy) (l5 : List T_api_Copy) (b7_0 b7_1 : Int) : Option (((Bool × Int × (List T_api_Copy)) ⊕ (T_api_Image × Int))) :=
 some (.inl (x12, (IntKind.wrap .i64 (x13 + 1)), l5))
theorem JdX {x1 : Int} {x12 : Bool} {x13 : Int} {b0 : T_api_Image} {l1 : List T_api_Copy} {b2_0 b2_1 : Int} {b4 : T_api_Copy} {l5 : List T_api_Copy} {b7_0 b7_1 : Int} {w1 : Bool} {B3 : List PV} {w5 : Bool} {B6 : List (List PV)} {w6 : Bool} {o : ((Bool × Int × (List T_api_Copy)) ⊕ (T_api_Image × Int))} (h : J4q x1 x12 x13 b0 l1 b2_0 b2_1 b4 l5 b7_0 b7_1 = some o) :
  rk (J2 p) J24 0 [.lo 8 [1, 3, 6, 10, 11, 12, 13] J1j, .bl 0, .sq (.keep [6, 10, 11, 12] J2L)] (X (J2 p) J9b ⟨[(1, .p (.i .i64 x1)), (3, .ptr 0 0), (6, .ptr 2 0), (10, .ptr 4 0), (11, .ptr 7 0), (12, .p (.b x12)), (13, .p (.i .i64 x13))], [.box (List.map AV.p (J7 b0)), .arr w1 3 (List.map J6 l1), .box [.p (.i .i64 b2_0), .p (.i .i64 b2_1), .slr 1 0 (List.length l1)], .box (List.map AV.p B3), .box (List.map AV.p (J6 b4)), .arr w5 3 (List.map J6 l5), .arr w6 3 B6, .box [.p (.i .i64 b7_0), .p (.i .i64 b7_1), .slr 5 0 (List.length l5)]]⟩) = (JaY p x1 b0 l1 b2_0 b2_1 b4 b7_0 b7_1 B3 B6 w1 w5 w6) o := by
 unfold J4q at h
 obtain rfl := sj h
 try simp only [↓Da, Ua, J9b, ↓reduceIte, reduceEqDiff, reduceAdd, reduceLT, reduceMul]
 rfl
def J4j (x1 : Int) (x12 : Bool) (x13 : Int) (b0 : T_api_Image) (l1 : List T_api_Copy) (b2_0 b2_1 : Int) (b4 : T_api_Copy) (l5 : List T_api_Copy) (b7_0 b7_1 : Int) : Option (((Bool × Int × (List T_api_Copy)) ⊕ (T_api_Image × Int))) :=
 Option.bind (idx b0.Copies x13) fun y1 =>
 if ((y1.Page : Int) != x1) then
  Option.bind (JcB 32 l5 ([y1] : List T_api_Copy)) fun m5 =>
  J4q x1 x12 x13 b0 l1 b2_0 b2_1 b4 m5 b7_0 b7_1
 else
  J4q x1 x12 x13 b0 l1 b2_0 b2_1 b4 l5 b7_0 b7_1
theorem JaN {x1 : Int} {x12 : Bool} {x13 : Int} {b0 : T_api_Image} {l1 : List T_api_Copy} {b2_0 b2_1 : Int} {b4 : T_api_Copy} {l5 : List T_api_Copy} {b7_0 b7_1 : Int} {w1 : Bool} {B3 : List PV} {w5 : Bool} {B6 : List (List PV)} {w6 : Bool} {o : ((Bool × Int × (List T_api_Copy)) ⊕ (T_api_Image × Int))} (h : J4j x1 x12 x13 b0 l1 b2_0 b2_1 b4 l5 b7_0 b7_1 = some o) :
  rk (J2 p) J24 0 [.bl 1, .sq (.keep [1, 3, 6, 10, 11, 12, 13] J9b), .lo 8 [1, 3, 6, 10, 11, 12, 13] J1j, .bl 0, .sq (.keep [6, 10, 11, 12] J2L)] (X (J2 p) J7t ⟨[(1, .p (.i .i64 x1)), (3, .ptr 0 0), (6, .ptr 2 0), (10, .ptr 4 0), (11, .ptr 7 0), (12, .p (.b x12)), (13, .p (.i .i64 x13))], [.box (List.map AV.p (J7 b0)), .arr w1 3 (List.map J6 l1), .box [.p (.i .i64 b2_0), .p (.i .i64 b2_1), .slr 1 0 (List.length l1)], .box (List.map AV.p B3), .box (List.map AV.p (J6 b4)), .arr w5 3 (List.map J6 l5), .arr w6 3 B6, .box [.p (.i .i64 b7_0), .p (.i .i64 b7_1), .slr 5 0 (List.length l5)]]⟩) = (JaY p x1 b0 l1 b2_0 b2_1 b4 b7_0 b7_1 B3 B6 w1 w5 w6) o := by
 unfold J4j at h
 obtain ⟨y1, h2, h⟩ := bi h
 have f3 := J4t (r := J6) h2
 try simp only [Nf, Jt, Jw] at f3
 try simp only [↓Da, Ua, Ra, J7t, Jt, Jw, *, ↓reduceIte, reduceEqDiff, reduceAdd, reduceLT, reduceMul, Nat.reduceBEq]
 rcases Jb h with ⟨h4, h⟩ | ⟨h4, h⟩
 ·obtain ⟨m5, h6, h⟩ := bi h
  have f7 : ∀ s : St, s.sto[5]? = some (.arr w5 3 (List.map J6 l5)) → (J02 3 (.p (.sl 3 (List.map J6 ([y1] : List T_api_Copy))))).run s = some (List.map J6 ([y1] : List T_api_Copy)) → (J4L 3 32 (.slr 5 0 (List.length l5)) (.p (.sl 3 (List.map J6 ([y1] : List T_api_Copy))))).run s = some ⟨.slr 5 0 (List.length m5), [(5, .arr w5 3 (List.map J6 m5))]⟩ := by
   intro s e1 e2; have e3 := Jfv h6 e1 e2; try simp only [List.length_cons, List.length_nil, Nat.zero_add] at e3
   exact e3
  try simp only [Nf, Jt, Jw] at f7
  try simp only [↓Da, Ua, Ra, J7t, Jt, Jw, *, ↓reduceIte, reduceEqDiff, reduceAdd, reduceLT, reduceMul, Nat.reduceBEq]
  have e0 := JdX p (w1 := w1) (B3 := B3) (w5 := w5) (w6 := w6) (B6 := B6) h
  exact e0
 ·try simp only [↓Da, Ua, Ra, J7t, Jt, Jw, *, ↓reduceIte, reduceEqDiff, reduceAdd, reduceLT, reduceMul, Nat.reduceBEq]
  have e0 := JdX p (w1 := w1) (B3 := B3) (w5 := w5) (w6 := w6) (B6 := B6) h
  exact e0
def J99 (l1 : List T_api_Copy) (b2_0 b2_1 : Int) (l5 : List T_api_Copy) (b7_0 b7_1 : Int) : Option (T_api_Image × Int) :=
 some ((⟨b7_0, b7_1, l5⟩ : T_api_Image), 0)
theorem JdU {l1 : List T_api_Copy} {b2_0 b2_1 : Int} {l5 : List T_api_Copy} {b7_0 b7_1 : Int} {B0 : List PV} {w1 : Bool} {B3 B4 : List PV} {w5 : Bool} {B6 : List (List PV)} {w6 : Bool} {o : T_api_Image × Int} (h : J99 l1 b2_0 b2_1 l5 b7_0 b7_1 = some o) :
  rk (J2 p) J24 0 [] (X (J2 p) JaT ⟨[(6, .ptr 2 0), (11, .ptr 7 0)], [.box (List.map AV.p B0), .arr w1 3 (List.map J6 l1), .box [.p (.i .i64 b2_0), .p (.i .i64 b2_1), .slr 1 0 (List.length l1)], .box (List.map AV.p B3), .box (List.map AV.p B4), .arr w5 3 (List.map J6 l5), .arr w6 3 B6, .box [.p (.i .i64 b7_0), .p (.i .i64 b7_1), .slr 5 0 (List.length l5)]]⟩) = J6K o := by
 unfold J99 at h
 obtain rfl := sj h
 try simp only [↓Da, Ua, JaT, Jt, Jw, J8Y, ↓reduceIte, reduceEqDiff, reduceAdd, reduceLT, reduceMul]
 rfl
def J9i (x12 : Bool) (l1 : List T_api_Copy) (b2_0 b2_1 : Int) (b4 : T_api_Copy) (l5 : List T_api_Copy) (b7_0 b7_1 : Int) : Option (T_api_Image × Int) :=
 if x12 then
  J99 l1 b2_0 b2_1 l5 b7_0 b7_1
 else
  Option.bind (JcB 32 l5 ([b4] : List T_api_Copy)) fun m2 =>
  J99 l1 b2_0 b2_1 m2 b7_0 b7_1
theorem Jkt {x12 : Bool} {l1 : List T_api_Copy} {b2_0 b2_1 : Int} {b4 : T_api_Copy} {l5 : List T_api_Copy} {b7_0 b7_1 : Int} {B0 : List PV} {w1 : Bool} {B3 : List PV} {w5 : Bool} {B6 : List (List PV)} {w6 : Bool} {o : T_api_Image × Int} (h : J9i x12 l1 b2_0 b2_1 b4 l5 b7_0 b7_1 = some o) :
  rk (J2 p) J24 0 [] (X (J2 p) J2L ⟨[(6, .ptr 2 0), (10, .ptr 4 0), (11, .ptr 7 0), (12, .p (.b x12))], [.box (List.map AV.p B0), .arr w1 3 (List.map J6 l1), .box [.p (.i .i64 b2_0), .p (.i .i64 b2_1), .slr 1 0 (List.length l1)], .box (List.map AV.p B3), .box (List.map AV.p (J6 b4)), .arr w5 3 (List.map J6 l5), .arr w6 3 B6, .box [.p (.i .i64 b7_0), .p (.i .i64 b7_1), .slr 5 0 (List.length l5)]]⟩) = J6K o := by
 unfold J9i at h
 rcases Jb h with ⟨h1, h⟩ | ⟨h1, h⟩
 ·try simp only [↓Da, Ua, J2L, Jt, Jw, *, ↓reduceIte, reduceEqDiff, reduceAdd, reduceLT, reduceMul]
  have e0 := JdU p (B0 := B0) (w1 := w1) (B3 := B3) (B4 := (J6 b4)) (w5 := w5) (w6 := w6) (B6 := B6) h
  exact e0
 ·obtain ⟨m2, h3, h⟩ := bi h
  have f4 : ∀ s : St, s.sto[5]? = some (.arr w5 3 (List.map J6 l5)) → (J02 3 (.p (.sl 3 (List.map J6 ([b4] : List T_api_Copy))))).run s = some (List.map J6 ([b4] : List T_api_Copy)) → (J4L 3 32 (.slr 5 0 (List.length l5)) (.p (.sl 3 (List.map J6 ([b4] : List T_api_Copy))))).run s = some ⟨.slr 5 0 (List.length m2), [(5, .arr w5 3 (List.map J6 m2))]⟩ := by
   intro s e1 e2; have e3 := Jfv h3 e1 e2; try simp only [List.length_cons, List.length_nil, Nat.zero_add] at e3
   exact e3
  try simp only [Nf, Jt, Jw] at f4
  try simp only [↓Da, Ua, J2L, Jt, Jw, *, ↓reduceIte, reduceEqDiff, reduceAdd, reduceLT, reduceMul]
  have e0 := JdU p (B0 := B0) (w1 := w1) (B3 := B3) (B4 := (J6 b4)) (w5 := w5) (w6 := w6) (B6 := B6) h
  exact e0
def J7u (x1 : Int) (b0 : T_api_Image) (l1 : List T_api_Copy) (b2_0 b2_1 : Int) (b4 : T_api_Copy) (b7_0 b7_1 : Int) (x12 : Bool) (x13 : Int) (l5 : List T_api_Copy) : Option (((Bool × Int × (List T_api_Copy)) ⊕ (T_api_Image × Int))) :=
 if (decide (x13 < ((List.length b0.Copies : Nat) : Int))) then
  if x12 then
   J4j x1 true x13 b0 l1 b2_0 b2_1 b4 l5 b7_0 b7_1
  else
   Option.bind (idx b0.Copies x13) fun y3 =>
   if (decide (y3.Page ≥ x1)) then
    Option.bind (JcB 32 l5 ([b4] : List T_api_Copy)) fun m7 =>
    J4j x1 true x13 b0 l1 b2_0 b2_1 b4 m7 b7_0 b7_1
   else
    J4j x1 false x13 b0 l1 b2_0 b2_1 b4 l5 b7_0 b7_1
 else
  Option.map (fun o => .inr o) (J9i x12 l1 b2_0 b2_1 b4 l5 b7_0 b7_1)
theorem Je2 {x1 : Int} {b0 : T_api_Image} {l1 : List T_api_Copy} {b2_0 b2_1 : Int} {b4 : T_api_Copy} {b7_0 b7_1 : Int} {x12 : Bool} {x13 : Int} {l5 : List T_api_Copy} {w1 : Bool} {B3 : List PV} {w5 : Bool} {B6 : List (List PV)} {w6 : Bool} {o : ((Bool × Int × (List T_api_Copy)) ⊕ (T_api_Image × Int))} (h : J7u x1 b0 l1 b2_0 b2_1 b4 b7_0 b7_1 x12 x13 l5 = some o) :
  rk (J2 p) J24 0 [.lo 8 [1, 3, 6, 10, 11, 12, 13] J1j, .bl 0, .sq (.keep [6, 10, 11, 12] J2L)] (X (J2 p) J1j ⟨[(1, .p (.i .i64 x1)), (3, .ptr 0 0), (6, .ptr 2 0), (10, .ptr 4 0), (11, .ptr 7 0), (12, .p (.b x12)), (13, .p (.i .i64 x13))], [.box (List.map AV.p (J7 b0)), .arr w1 3 (List.map J6 l1), .box [.p (.i .i64 b2_0), .p (.i .i64 b2_1), .slr 1 0 (List.length l1)], .box (List.map AV.p B3), .box (List.map AV.p (J6 b4)), .arr w5 3 (List.map J6 l5), .arr w6 3 B6, .box [.p (.i .i64 b7_0), .p (.i .i64 b7_1), .slr 5 0 (List.length l5)]]⟩) = (JaY p x1 b0 l1 b2_0 b2_1 b4 b7_0 b7_1 B3 B6 w1 w5 w6) o := by
 unfold J7u at h
 rcases Jb h with ⟨h1, h⟩ | ⟨h1, h⟩
 ·try simp only [↓Da, Ua, J1j, Jt, Jw, *, ↓reduceIte, reduceEqDiff, reduceAdd, reduceLT, reduceMul]
  rcases Jb h with ⟨h2, h⟩ | ⟨h2, h⟩
  ·try simp only [↓Da, Ua, J1j, Jt, Jw, *, ↓reduceIte, reduceEqDiff, reduceAdd, reduceLT, reduceMul]
   have e0 := JaN p (w1 := w1) (B3 := B3) (w5 := w5) (w6 := w6) (B6 := B6) h
   exact e0
  ·obtain ⟨y3, h4, h⟩ := bi h
   have f5 := J4t (r := J6) h4
   try simp only [Nf, Jt, Jw] at f5
   try simp only [↓Da, Ua, J1j, Jt, Jw, *, ↓reduceIte, reduceEqDiff, reduceAdd, reduceLT, reduceMul]
   rcases Jb h with ⟨h6, h⟩ | ⟨h6, h⟩
   ·obtain ⟨m7, h8, h⟩ := bi h
    have f9 : ∀ s : St, s.sto[5]? = some (.arr w5 3 (List.map J6 l5)) → (J02 3 (.p (.sl 3 (List.map J6 ([b4] : List T_api_Copy))))).run s = some (List.map J6 ([b4] : List T_api_Copy)) → (J4L 3 32 (.slr 5 0 (List.length l5)) (.p (.sl 3 (List.map J6 ([b4] : List T_api_Copy))))).run s = some ⟨.slr 5 0 (List.length m7), [(5, .arr w5 3 (List.map J6 m7))]⟩ := by
     intro s e1 e2; have e3 := Jfv h8 e1 e2; try simp only [List.length_cons, List.length_nil, Nat.zero_add] at e3
     exact e3
    try simp only [Nf, Jt, Jw] at f9
    try simp only [↓Da, Ua, J1j, Jt, Jw, *, ↓reduceIte, reduceEqDiff, reduceAdd, reduceLT, reduceMul]
    have e0 := JaN p (w1 := w1) (B3 := B3) (w5 := w5) (w6 := w6) (B6 := B6) h
    exact e0
   ·try simp only [↓Da, Ua, J1j, Jt, Jw, *, ↓reduceIte, reduceEqDiff, reduceAdd, reduceLT, reduceMul]
    have e0 := JaN p (w1 := w1) (B3 := B3) (w5 := w5) (w6 := w6) (B6 := B6) h
    exact e0
 ·obtain ⟨o', h', rfl⟩ := mi h
  try simp only [↓Da, Ua, J1j, Jt, Jw, *, ↓reduceIte, reduceEqDiff, reduceAdd, reduceLT, reduceMul]
  have e0 := Jkt p (B0 := (J7 b0)) (w1 := w1) (B3 := B3) (w5 := w5) (w6 := w6) (B6 := B6) h'
  exact e0
def J9e (x1 : Int) (b0 : T_api_Image) (l1 : List T_api_Copy) (b2_0 b2_1 : Int) (b4 : T_api_Copy) (b7_0 b7_1 : Int) (s : Bool × Int × (List T_api_Copy)) : Option (T_api_Image × Int) :=
 Ju (fun s => J7u x1 b0 l1 b2_0 b2_1 b4 b7_0 b7_1 s.1 s.2.1 s.2.2) s
theorem Jit {x1 : Int} {b0 : T_api_Image} {l1 : List T_api_Copy} {b2_0 b2_1 : Int} {b4 : T_api_Copy} {b7_0 b7_1 : Int} {w1 : Bool} {B3 : List PV} {w5 : Bool} {B6 : List (List PV)} {w6 : Bool} {s : Bool × Int × (List T_api_Copy)} {o : T_api_Image × Int} (h : J9e x1 b0 l1 b2_0 b2_1 b4 b7_0 b7_1 s = some o) :
  rk (J2 p) J24 0 [.bl 0, .sq (.keep [6, 10, 11, 12] J2L)] (X (J2 p) (.lp 8 [1, 3, 6, 10, 11, 12, 13] J1j) ⟨[(1, .p (.i .i64 x1)), (3, .ptr 0 0), (6, .ptr 2 0), (10, .ptr 4 0), (11, .ptr 7 0), (12, .p (.b s.1)), (13, .p (.i .i64 s.2.1))], [.box (List.map AV.p (J7 b0)), .arr w1 3 (List.map J6 l1), .box [.p (.i .i64 b2_0), .p (.i .i64 b2_1), .slr 1 0 (List.length l1)], .box (List.map AV.p B3), .box (List.map AV.p (J6 b4)), .arr w5 3 (List.map J6 s.2.2), .arr w6 3 B6, .box [.p (.i .i64 b7_0), .p (.i .i64 b7_1), .slr 5 0 (List.length s.2.2)]]⟩) = J6K o := by
 have h0 : Ju (fun s => J7u x1 b0 l1 b2_0 b2_1 b4 b7_0 b7_1 s.1 s.2.1 s.2.2) s = some o := h
 exact J0m (P := fun (s : Bool × Int × (List T_api_Copy)) (o : T_api_Image × Int) => rk (J2 p) J24 0 [.bl 0, .sq (.keep [6, 10, 11, 12] J2L)] (X (J2 p) (.lp 8 [1, 3, 6, 10, 11, 12, 13] J1j) ⟨[(1, .p (.i .i64 x1)), (3, .ptr 0 0), (6, .ptr 2 0), (10, .ptr 4 0), (11, .ptr 7 0), (12, .p (.b s.1)), (13, .p (.i .i64 s.2.1))], [.box (List.map AV.p (J7 b0)), .arr w1 3 (List.map J6 l1), .box [.p (.i .i64 b2_0), .p (.i .i64 b2_1), .slr 1 0 (List.length l1)], .box (List.map AV.p B3), .box (List.map AV.p (J6 b4)), .arr w5 3 (List.map J6 s.2.2), .arr w6 3 B6, .box [.p (.i .i64 b7_0), .p (.i .i64 b7_1), .slr 5 0 (List.length s.2.2)]]⟩) = J6K o) (fun s r hs => by rw [J0q]; exact Je2 p hs) (fun s s1 r hs ih => by rw [J0q]; exact (Je2 p hs).trans ih) h0
def J2r (x0 : T_api_Image) (x1 : Int) (x2 : List UInt8) : Option (T_api_Image × Int) :=
 Option.bind (J5b x0) fun r1 =>
 if r1 then
  if (decide (x1 < 0)) then
   some ((⟨0, 0, ([] : List T_api_Copy)⟩ : T_api_Image), 1)
  else
   if (decide (x1 ≥ x0.Pages)) then
    some ((⟨0, 0, ([] : List T_api_Copy)⟩ : T_api_Image), 1)
   else
    Option.bind (J1H x2 x1) fun r7 =>
    if ((r7.2 : Int) != 0) then
     some ((⟨0, 0, ([] : List T_api_Copy)⟩ : T_api_Image), r7.2)
    else
     J9e x1 x0 ([] : List T_api_Copy) 0 0 (⟨x1, r7.1.LSN, x2⟩ : T_api_Copy) x0.ID x0.Pages (false, 0, ([] : List T_api_Copy))
 else
  some ((⟨0, 0, ([] : List T_api_Copy)⟩ : T_api_Image), 43)
theorem JhG {x0 : T_api_Image} {x1 : Int} {x2 : List UInt8} {o : T_api_Image × Int} (h : J2r x0 x1 x2 = some o) :
  rk (J2 p) J24 0 [] (X (J2 p) J2q ⟨[(0, .data (J7 x0)), (1, .p (.i .i64 x1)), (2, .p (.s x2))], []⟩) = J6K o := by
 unfold J2r at h
 obtain ⟨r1, h2, h⟩ := bi h
 have f3 := Jld p h2
 try simp only [Nf, Jt, J05, Jw] at f3
 try simp only [↓Da, Ua, J2q, Jt, J05, J1, J3, Jw, *, ↓reduceIte, reduceEqDiff, reduceAdd, reduceLT, reduceMul]
 rcases Jb h with ⟨h4, h⟩ | ⟨h4, h⟩
 ·try simp only [↓Da, Ua, J2q, Jt, J05, J1, J3, Jw, *, ↓reduceIte, reduceEqDiff, reduceAdd, reduceLT, reduceMul]
  rcases Jb h with ⟨h5, h⟩ | ⟨h5, h⟩
  ·obtain rfl := sj h
   try simp only [↓Da, Ua, J2q, Jt, J05, J1, J3, Jw, J8Y, *, ↓reduceIte, reduceEqDiff, reduceAdd, reduceLT, reduceMul]
   rfl
  ·try simp only [↓Da, Ua, J2q, Jt, J05, J1, J3, Jw, *, ↓reduceIte, reduceEqDiff, reduceAdd, reduceLT, reduceMul]
   rcases Jb h with ⟨h6, h⟩ | ⟨h6, h⟩
   ·obtain rfl := sj h
    try simp only [↓Da, Ua, J2q, Jt, J05, J1, J3, Jw, J8Y, *, ↓reduceIte, reduceEqDiff, reduceAdd, reduceLT, reduceMul]
    rfl
   ·obtain ⟨r7, h8, h⟩ := bi h
    have f9 := J9l p h8
    try simp only [Nf, Jt, J05, Jw] at f9
    try simp only [↓Da, Ua, J2q, Jt, J05, J1, J3, Jw, *, ↓reduceIte, reduceEqDiff, reduceAdd, reduceLT, reduceMul]
    rcases Jb h with ⟨h10, h⟩ | ⟨h10, h⟩
    ·obtain rfl := sj h
     try simp only [↓Da, Ua, J2q, Jt, J05, J1, J3, Jw, J8Y, *, ↓reduceIte, reduceEqDiff, reduceAdd, reduceLT, reduceMul]
     rfl
    ·try simp only [↓Da, Ua, J2q, Jt, J05, J1, J3, Jw, *, ↓reduceIte, reduceEqDiff, reduceAdd, reduceLT, reduceMul]
     have e0 := Jit p (w1 := true) (B3 := (J4 r7.1)) (w5 := true) (w6 := true) (B6 := (List.map J6 ([] : List T_api_Copy))) h
     exact e0
 ·obtain rfl := sj h
  try simp only [↓Da, Ua, J2q, Jt, J05, J1, J3, Jw, J8Y, *, ↓reduceIte, reduceEqDiff, reduceAdd, reduceLT, reduceMul]
  rfl
theorem JnJ {x0 : T_api_Image} {x1 : Int} {x2 : List UInt8} {o : T_api_Image × Int} (h : J2r x0 x1 x2 = some o) : AF (J2 p) J6F [.data (J7 x0), .p (.i .i64 x1), .p (.s x2)] [] = J6K o :=
 (J0r (J2 p) (JnM p) rfl).trans (JhG p h)
theorem JmZ {x0 : T_api_Image} {x1 : Int} {x2 : List UInt8} {o : T_api_Image × Int} (h : J2r x0 x1 x2 = some o) : ∀ ws new st, (Jj (AF (J2 p)) J6F ([.data (J7 x0), .p (.i .i64 x1), .p (.s x2)], ws) 0 new).run st = some ⟨.tup [.data (J7 o.1), .p (.i .i64 o.2)], ws⟩ := Jx rfl (JnJ p h) rfl
def Je4  (r : Bool) : Option Res := some (.p (.b r), [])
def J59  : Option (Bool) :=
 Option.bind (J2S (⟨1, 1, ([] : List T_api_Copy)⟩ : T_api_Image)) fun r1 =>
 if ((r1.2 : Int) == 0) then
  if ((((List.length r1.1 : Nat) : Int) : Int) == 20) then
   Option.bind (J12 (⟨1, 1, ([] : List T_api_Copy)⟩ : T_api_Image)) fun r6 =>
   some r6
  else
   some false
 else
  some false
theorem Jgh  {o : Bool} (h : J59 = some o) :
  rk (J2 p) J64 0 [] (X (J2 p) J3o ⟨[], []⟩) = Je4 o := by
 unfold J59 at h
 obtain ⟨r1, h2, h⟩ := bi h
 have f3 : ∀ ws new s, (Jj (AF (J2 p)) J1u ([.data (J7 (⟨1, 1, ([] : List T_api_Copy)⟩ : T_api_Image))], ws) 0 new).run s = some ⟨.tup [.p (.s r1.1), .p (.i .i64 r1.2)], ws⟩ := Jx rfl (JjB p h2) rfl
 try simp only [Nf] at f3
 try simp only [↓Da, Ua, J3o, J9, J8, *, ↓reduceIte, reduceEqDiff, reduceAdd, reduceLT, reduceMul]
 rcases Jb h with ⟨h4, h⟩ | ⟨h4, h⟩
 ·have h4n : ((r1.2 : Int) != 0) = false := by rw [bne, h4]; rfl
  try simp only [↓Da, Ua, J3o, J9, J8, *, ↓reduceIte, reduceEqDiff, reduceAdd, reduceLT, reduceMul]
  rcases Jb h with ⟨h5, h⟩ | ⟨h5, h⟩
  ·have h5n : ((((List.length r1.1 : Nat) : Int) : Int) != 20) = false := by rw [bne, h5]; rfl
   obtain ⟨r6, h7, h⟩ := bi h
   have f8 := J9j p h7
   try simp only [Nf] at f8
   obtain rfl := sj h
   try simp only [↓Da, Ua, J3o, J9, J8, Jb5, *, ↓reduceIte, reduceEqDiff, reduceAdd, reduceLT, reduceMul]
   rfl
  ·have h5n : ((((List.length r1.1 : Nat) : Int) : Int) != 20) = true := by rw [bne, h5]; rfl
   obtain rfl := sj h
   try simp only [↓Da, Ua, J3o, J9, J8, Jb5, *, ↓reduceIte, reduceEqDiff, reduceAdd, reduceLT, reduceMul]
   rfl
 ·have h4n : ((r1.2 : Int) != 0) = true := by rw [bne, h4]; rfl
  obtain rfl := sj h
  try simp only [↓Da, Ua, J3o, J9, J8, Jb5, *, ↓reduceIte, reduceEqDiff, reduceAdd, reduceLT, reduceMul]
  rfl
theorem JkE  {o : Bool} (h : J59 = some o) : AF (J2 p) J61 [] [] = Je4 o :=
 (J0r (J2 p) (Jko p) rfl).trans (Jgh p h)
theorem JkA  {o : Bool} (h : J59 = some o) : ∀ ws new st, (Jj (AF (J2 p)) J61 ([], ws) 0 new).run st = some ⟨.p (.b o), ws⟩ := Jx rfl (JkE p h) rfl
def J79  (r : T_api_Image × T_pagemenddraw_Codes) : Option Res := some (.data (J7 r.1), [.box (List.map AV.p (J0 r.2))])
def JcX (b1 : T_api_Image) (o : (Int × T_pagemenddraw_Codes × T_api_Image) ⊕ (T_api_Image × T_pagemenddraw_Codes)) : Option Res := match o with
 | .inl s => rk (J2 p) J2i 1 [.bl 0, .td 3 [2, 3], .sq (.keep [2, 3] J3E)] (X (J2 p) (.lp 3 [0, 2, 3, 4] J1g) ⟨[(0, .ptr 0 0), (2, .ptr 1 0), (3, .ptr 2 0), (4, .p (.i .i64 s.1))], [.box (List.map AV.p (J0 s.2.1)), .box (List.map AV.p (J7 b1)), .box (List.map AV.p (J7 s.2.2))]⟩)
 | .inr o => J79 o
def J5z (x4 : Int) (b0 : T_pagemenddraw_Codes) (b1 b2 : T_api_Image) : Option (((Int × T_pagemenddraw_Codes × T_api_Image) ⊕ (T_api_Image × T_pagemenddraw_Codes))) :=
 some (.inl ((IntKind.wrap .i64 (x4 + 1)), b0, b2))
theorem Jau {x4 : Int} {b0 : T_pagemenddraw_Codes} {b1 b2 : T_api_Image} {o : ((Int × T_pagemenddraw_Codes × T_api_Image) ⊕ (T_api_Image × T_pagemenddraw_Codes))} (h : J5z x4 b0 b1 b2 = some o) :
  rk (J2 p) J2i 1 [.lo 3 [0, 2, 3, 4] J1g, .bl 0, .td 3 [2, 3], .sq (.keep [2, 3] J3E)] (X (J2 p) Jat ⟨[(0, .ptr 0 0), (2, .ptr 1 0), (3, .ptr 2 0), (4, .p (.i .i64 x4))], [.box (List.map AV.p (J0 b0)), .box (List.map AV.p (J7 b1)), .box (List.map AV.p (J7 b2))]⟩) = (JcX p b1) o := by
 unfold J5z at h
 obtain rfl := sj h
 try simp only [↓Da, Ua, Jat, ↓reduceIte, reduceEqDiff, reduceAdd, reduceLT, reduceMul]
 rfl
def Jay (b0 : T_pagemenddraw_Codes) (b1 b2 : T_api_Image) : Option (T_api_Image × T_pagemenddraw_Codes) :=
 some (b2, b0)
theorem JiS {b0 : T_pagemenddraw_Codes} {b1 b2 : T_api_Image} {o : T_api_Image × T_pagemenddraw_Codes} (h : Jay b0 b1 b2 = some o) :
  rk (J2 p) J2i 1 [] (X (J2 p) J3E ⟨[(2, .ptr 1 0), (3, .ptr 2 0)], [.box (List.map AV.p (J0 b0)), .box (List.map AV.p (J7 b1)), .box (List.map AV.p (J7 b2))]⟩) = J79 o := by
 unfold Jay at h
 obtain rfl := sj h
 try simp only [↓Da, Ua, J3E, J9, J8, JlH, ↓reduceIte, reduceEqDiff, reduceAdd, reduceLT, reduceMul]
 rfl
def J7e (b1 : T_api_Image) (x4 : Int) (b0 : T_pagemenddraw_Codes) (b2 : T_api_Image) : Option (((Int × T_pagemenddraw_Codes × T_api_Image) ⊕ (T_api_Image × T_pagemenddraw_Codes))) :=
 if (decide (x4 < b2.Pages)) then
  Option.bind (JI b0 4) fun r2 =>
  if ((r2.1 : Int) == 0) then
   J5z x4 r2.2 b1 b2
  else
   Option.bind (J7a r2.2 x4) fun r6 =>
   Option.bind (J2r b2 x4 r6.1) fun r10 =>
   if ((r10.2 : Int) == 0) then
    J5z x4 r6.2 b1 r10.1
   else
    J5z x4 r6.2 b1 b2
 else
  Option.map (fun o => .inr o) (Jay b0 b1 b2)
theorem JcQ {b1 : T_api_Image} {x4 : Int} {b0 : T_pagemenddraw_Codes} {b2 : T_api_Image} {o : ((Int × T_pagemenddraw_Codes × T_api_Image) ⊕ (T_api_Image × T_pagemenddraw_Codes))} (h : J7e b1 x4 b0 b2 = some o) :
  rk (J2 p) J2i 1 [.lo 3 [0, 2, 3, 4] J1g, .bl 0, .td 3 [2, 3], .sq (.keep [2, 3] J3E)] (X (J2 p) J1g ⟨[(0, .ptr 0 0), (2, .ptr 1 0), (3, .ptr 2 0), (4, .p (.i .i64 x4))], [.box (List.map AV.p (J0 b0)), .box (List.map AV.p (J7 b1)), .box (List.map AV.p (J7 b2))]⟩) = (JcX p b1) o := by
 unfold J7e at h
 rcases Jb h with ⟨h1, h⟩ | ⟨h1, h⟩
 ·obtain ⟨r2, h3, h⟩ := bi h
  have f4 : ∀ ws new s, J07 ws s [0] [List.map AV.p (J0 b0)] → (Jj (AF (J2 p)) Jh ([.ptr 0 0, .p (.i .i64 4)], ws) 0 new).run s = some ⟨.p (.i .i64 r2.1), ws ++ [(0, .box (List.map AV.p (J0 r2.2)))]⟩ := JT (args' := [.ptr 0 0, .p (.i .i64 4)]) (bs := [0]) (css := [List.map AV.p (J0 b0)]) (css' := [List.map AV.p (J0 r2.2)]) rfl rfl rfl (by simp [Jm, Jf]) (JU p h3) rfl rfl (by simp [Jm, Jf])
  try simp only [Nf] at f4
  try simp only [↓Da, Ua, Ra, J1g, J9, J8, Ja, *, ↓reduceIte, reduceEqDiff, reduceAdd, reduceLT, reduceMul, Nat.reduceBEq]
  rcases Jb h with ⟨h5, h⟩ | ⟨h5, h⟩
  ·have h5n : ((r2.1 : Int) != 0) = false := by rw [bne, h5]; rfl
   try simp only [↓Da, Ua, Ra, J1g, J9, J8, Ja, *, ↓reduceIte, reduceEqDiff, reduceAdd, reduceLT, reduceMul, Nat.reduceBEq]
   have e0 := Jau p h
   exact e0
  ·have h5n : ((r2.1 : Int) != 0) = true := by rw [bne, h5]; rfl
   obtain ⟨r6, h7, h⟩ := bi h
   have f8 : ∀ ws new s, J07 ws s [0] [List.map AV.p (J0 r2.2)] → (Jj (AF (J2 p)) J5L ([.ptr 0 0, .p (.i .i64 x4)], ws) 0 new).run s = some ⟨.p (.s r6.1), ws ++ [(0, .box (List.map AV.p (J0 r6.2)))]⟩ := JT (args' := [.ptr 0 0, .p (.i .i64 x4)]) (bs := [0]) (css := [List.map AV.p (J0 r2.2)]) (css' := [List.map AV.p (J0 r6.2)]) rfl rfl rfl (by simp [Jm, Jf]) (JlU p h7) rfl rfl (by simp [Jm, Jf])
   try simp only [Nf] at f8
   have f9 : ∀ ws k new s, J07 ws s [0] [List.map AV.p (J0 r2.2)] → Je ((Jj (AF (J2 p)) J5L ([.ptr 0 0, .p (.i .i64 x4)], ws) k new).reads s) = [0] ++ ([0] ++ [0]) := J8O (args' := [.ptr 0 0, .p (.i .i64 x4)]) (bs := [0]) (css := [List.map AV.p (J0 r2.2)]) rfl rfl rfl (by simp [Jm, Jf])
   try simp only [Nf] at f9
   obtain ⟨r10, h11, h⟩ := bi h
   have f12 := JmZ p h11
   try simp only [Nf] at f12
   have f13 : ∀ ws k new s, Je ((Jj (AF (J2 p)) J6F ([.data (J7 b2), .p (.i .i64 x4), .p (.s r6.1)], ws) k new).reads s) = [] := J18 rfl
   try simp only [Nf] at f13
   try simp only [↓Da, Ua, Ra, J1g, J9, J8, Ja, *, ↓reduceIte, reduceEqDiff, reduceAdd, reduceLT, reduceMul, Nat.reduceBEq]
   rcases Jb h with ⟨h14, h⟩ | ⟨h14, h⟩
   ·have h14n : ((r10.2 : Int) != 0) = false := by rw [bne, h14]; rfl
    try simp only [↓Da, Ua, Ra, J1g, J9, J8, Ja, *, ↓reduceIte, reduceEqDiff, reduceAdd, reduceLT, reduceMul, Nat.reduceBEq]
    have e0 := Jau p h
    exact e0
   ·have h14n : ((r10.2 : Int) != 0) = true := by rw [bne, h14]; rfl
    try simp only [↓Da, Ua, Ra, J1g, J9, J8, Ja, *, ↓reduceIte, reduceEqDiff, reduceAdd, reduceLT, reduceMul, Nat.reduceBEq]
    have e0 := Jau p h
    exact e0
 ·obtain ⟨o', h', rfl⟩ := mi h
  try simp only [↓Da, Ua, Ra, J1g, J9, J8, Ja, *, ↓reduceIte, reduceEqDiff, reduceAdd, reduceLT, reduceMul, Nat.reduceBEq]
  have e0 := JiS p h'
  exact e0
def Jap (b1 : T_api_Image) (s : Int × T_pagemenddraw_Codes × T_api_Image) : Option (T_api_Image × T_pagemenddraw_Codes) :=
 Ju (fun s => J7e b1 s.1 s.2.1 s.2.2) s
theorem Jhn {b1 : T_api_Image} {s : Int × T_pagemenddraw_Codes × T_api_Image} {o : T_api_Image × T_pagemenddraw_Codes} (h : Jap b1 s = some o) :
  rk (J2 p) J2i 1 [.bl 0, .td 3 [2, 3], .sq (.keep [2, 3] J3E)] (X (J2 p) (.lp 3 [0, 2, 3, 4] J1g) ⟨[(0, .ptr 0 0), (2, .ptr 1 0), (3, .ptr 2 0), (4, .p (.i .i64 s.1))], [.box (List.map AV.p (J0 s.2.1)), .box (List.map AV.p (J7 b1)), .box (List.map AV.p (J7 s.2.2))]⟩) = J79 o := by
 have h0 : Ju (fun s => J7e b1 s.1 s.2.1 s.2.2) s = some o := h
 exact J0m (P := fun (s : Int × T_pagemenddraw_Codes × T_api_Image) (o : T_api_Image × T_pagemenddraw_Codes) => rk (J2 p) J2i 1 [.bl 0, .td 3 [2, 3], .sq (.keep [2, 3] J3E)] (X (J2 p) (.lp 3 [0, 2, 3, 4] J1g) ⟨[(0, .ptr 0 0), (2, .ptr 1 0), (3, .ptr 2 0), (4, .p (.i .i64 s.1))], [.box (List.map AV.p (J0 s.2.1)), .box (List.map AV.p (J7 b1)), .box (List.map AV.p (J7 s.2.2))]⟩) = J79 o) (fun s r hs => by rw [J0q]; exact JcQ p hs) (fun s s1 r hs ih => by rw [J0q]; exact (JcQ p hs).trans ih) h0
def J76 (b0 : T_pagemenddraw_Codes) : Option (T_api_Image × T_pagemenddraw_Codes) :=
 Option.bind (JI b0 5) fun r1 =>
 Option.bind (JI r1.2 6) fun r4 =>
 Jap (⟨0, 0, ([] : List T_api_Copy)⟩ : T_api_Image) (0, r4.2, (⟨(IntKind.wrap .i64 (1 + r1.1)), (IntKind.wrap .i64 (1 + r4.1)), ([] : List T_api_Copy)⟩ : T_api_Image))
theorem JgP {b0 : T_pagemenddraw_Codes} {o : T_api_Image × T_pagemenddraw_Codes} (h : J76 b0 = some o) :
  rk (J2 p) J2i 1 [] (X (J2 p) J8n ⟨[(0, .ptr 0 0)], [.box (List.map AV.p (J0 b0))]⟩) = J79 o := by
 unfold J76 at h
 obtain ⟨r1, h2, h⟩ := bi h
 have f3 : ∀ ws new s, J07 ws s [0] [List.map AV.p (J0 b0)] → (Jj (AF (J2 p)) Jh ([.ptr 0 0, .p (.i .i64 5)], ws) 0 new).run s = some ⟨.p (.i .i64 r1.1), ws ++ [(0, .box (List.map AV.p (J0 r1.2)))]⟩ := JT (args' := [.ptr 0 0, .p (.i .i64 5)]) (bs := [0]) (css := [List.map AV.p (J0 b0)]) (css' := [List.map AV.p (J0 r1.2)]) rfl rfl rfl (by simp [Jm, Jf]) (JU p h2) rfl rfl (by simp [Jm, Jf])
 try simp only [Nf] at f3
 obtain ⟨r4, h5, h⟩ := bi h
 have f6 : ∀ ws new s, J07 ws s [0] [List.map AV.p (J0 r1.2)] → (Jj (AF (J2 p)) Jh ([.ptr 0 0, .p (.i .i64 6)], ws) 0 new).run s = some ⟨.p (.i .i64 r4.1), ws ++ [(0, .box (List.map AV.p (J0 r4.2)))]⟩ := JT (args' := [.ptr 0 0, .p (.i .i64 6)]) (bs := [0]) (css := [List.map AV.p (J0 r1.2)]) (css' := [List.map AV.p (J0 r4.2)]) rfl rfl rfl (by simp [Jm, Jf]) (JU p h5) rfl rfl (by simp [Jm, Jf])
 try simp only [Nf] at f6
 try simp only [↓Da, Ua, J8n, J9, J8, Ja, *, ↓reduceIte, reduceEqDiff, reduceAdd, reduceLT, reduceMul]
 have e0 := Jhn p h
 exact e0
theorem Jms {b0 : T_pagemenddraw_Codes} {o : T_api_Image × T_pagemenddraw_Codes} (h : J76 b0 = some o) : AF (J2 p) J6V [.ptr 0 0] [.box (List.map AV.p (J0 b0))] = J79 o :=
 (J0r (J2 p) (Jmw p) rfl).trans (JgP p h)
def J49  (r : Bool) : Option Res := some (.p (.b r), [])
def Jen (x5 x6 : Int) (b1 b3 : T_api_Image) (B0 B2 : List PV) (B4 B5 B6 : List PV) (o : (Int) ⊕ (Bool)) : Option Res := match o with
 | .inl s => rk (J2 p) J15 0 [.bl 0, .td 7 [2, 13], .sq (.keep [13] J2v)] (X (J2 p) (.lp 7 [4, 5, 6, 13, 21] J01) ⟨[(4, .ptr 1 0), (5, .p (.i .i64 x5)), (6, .p (.i .i64 x6)), (13, .ptr 3 0), (21, .p (.i .i64 s))], [.box (List.map AV.p B0), .box (List.map AV.p (J7 b1)), .box (List.map AV.p B2), .box (List.map AV.p (J7 b3)), .box (List.map AV.p B4), .box (List.map AV.p B5), .box (List.map AV.p B6)]⟩)
 | .inr o => J49 o
def J5O (b3 : T_api_Image) : Option (Bool) :=
 Option.bind (J12 b3) fun r1 =>
 some r1
theorem Jet {b3 : T_api_Image} {B0 B1 : List PV} {B2 B4 : List PV} {B5 B6 : List PV} {o : Bool} (h : J5O b3 = some o) :
  rk (J2 p) J15 0 [] (X (J2 p) J2v ⟨[(13, .ptr 3 0)], [.box (List.map AV.p B0), .box (List.map AV.p B1), .box (List.map AV.p B2), .box (List.map AV.p (J7 b3)), .box (List.map AV.p B4), .box (List.map AV.p B5), .box (List.map AV.p B6)]⟩) = J49 o := by
 unfold J5O at h
 obtain ⟨r1, h2, h⟩ := bi h
 have f3 := J9j p h2
 try simp only [Nf] at f3
 obtain rfl := sj h
 try simp only [↓Da, Ua, J2v, J9, J8, J14, *, ↓reduceIte, reduceEqDiff, reduceAdd, reduceLT, reduceMul]
 rfl
def J4A (x5 x6 : Int) (b1 b3 : T_api_Image) (x21 : Int) : Option (((Int) ⊕ (Bool))) :=
 if (decide (x21 < b1.Pages)) then
  Option.bind (J3Z b1 x21) fun r2 =>
  Option.bind (J3Z b3 x21) fun r5 =>
  if ((x21 : Int) != x5) then
   if ((x21 : Int) != x6) then
    if (r2.1 == r5.1) then
     if (r2.2 == r5.2) then
      some (.inl (IntKind.wrap .i64 (x21 + 1)))
     else
      some (.inr false)
    else
     some (.inr false)
   else
    some (.inl (IntKind.wrap .i64 (x21 + 1)))
  else
   some (.inl (IntKind.wrap .i64 (x21 + 1)))
 else
  Option.map (fun o => .inr o) (J5O b3)
theorem Jam {x5 x6 : Int} {b1 b3 : T_api_Image} {x21 : Int} {B0 B2 : List PV} {B4 B5 B6 : List PV} {o : ((Int) ⊕ (Bool))} (h : J4A x5 x6 b1 b3 x21 = some o) :
  rk (J2 p) J15 0 [.lo 7 [4, 5, 6, 13, 21] J01, .bl 0, .td 7 [2, 13], .sq (.keep [13] J2v)] (X (J2 p) J01 ⟨[(4, .ptr 1 0), (5, .p (.i .i64 x5)), (6, .p (.i .i64 x6)), (13, .ptr 3 0), (21, .p (.i .i64 x21))], [.box (List.map AV.p B0), .box (List.map AV.p (J7 b1)), .box (List.map AV.p B2), .box (List.map AV.p (J7 b3)), .box (List.map AV.p B4), .box (List.map AV.p B5), .box (List.map AV.p B6)]⟩) = (Jen p x5 x6 b1 b3 B0 B2 B4 B5 B6) o := by
 unfold J4A at h
 rcases Jb h with ⟨h1, h⟩ | ⟨h1, h⟩
 ·obtain ⟨r2, h3, h⟩ := bi h
  have f4 := JbJ p h3
  try simp only [Nf] at f4
  obtain ⟨r5, h6, h⟩ := bi h
  have f7 := JbJ p h6
  try simp only [Nf] at f7
  try simp only [↓Da, Ua, J01, J9, J8, *, ↓reduceIte, reduceEqDiff, reduceAdd, reduceLT, reduceMul]
  rcases Jb h with ⟨h8, h⟩ | ⟨h8, h⟩
  ·try simp only [↓Da, Ua, J01, J9, J8, *, ↓reduceIte, reduceEqDiff, reduceAdd, reduceLT, reduceMul]
   rcases Jb h with ⟨h9, h⟩ | ⟨h9, h⟩
   ·try simp only [↓Da, Ua, J01, J9, J8, J4W, *, ↓reduceIte, reduceEqDiff, reduceAdd, reduceLT, reduceMul]
    rcases Jb h with ⟨h11, h⟩ | ⟨h11, h⟩
    ·try simp only [↓Da, Ua, J01, J9, J8, J4W, *, ↓reduceIte, reduceEqDiff, reduceAdd, reduceLT, reduceMul]
     rcases Jb h with ⟨h12, h⟩ | ⟨h12, h⟩
     ·obtain rfl := sj h
      try simp only [↓Da, Ua, J01, J9, J8, J4W, *, ↓reduceIte, reduceEqDiff, reduceAdd, reduceLT, reduceMul]
      rfl
     ·obtain rfl := sj h
      try simp only [↓Da, Ua, J01, J9, J8, J4W, J14, *, ↓reduceIte, reduceEqDiff, reduceAdd, reduceLT, reduceMul]
      rfl
    ·obtain rfl := sj h
     try simp only [↓Da, Ua, J01, J9, J8, J4W, J14, *, ↓reduceIte, reduceEqDiff, reduceAdd, reduceLT, reduceMul]
     rfl
   ·obtain rfl := sj h
    try simp only [↓Da, Ua, J01, J9, J8, *, ↓reduceIte, reduceEqDiff, reduceAdd, reduceLT, reduceMul]
    rfl
  ·obtain rfl := sj h
   try simp only [↓Da, Ua, J01, J9, J8, *, ↓reduceIte, reduceEqDiff, reduceAdd, reduceLT, reduceMul]
   rfl
 ·obtain ⟨o', h', rfl⟩ := mi h
  try simp only [↓Da, Ua, J01, J9, J8, *, ↓reduceIte, reduceEqDiff, reduceAdd, reduceLT, reduceMul]
  have e0 := Jet p (B0 := B0) (B1 := (J7 b1)) (B2 := B2) (B4 := B4) (B5 := B5) (B6 := B6) h'
  first | exact e0 | (simp only [*] at e0; exact e0)
def J4z (x5 x6 : Int) (b1 b3 : T_api_Image) (s : Int) : Option (Bool) :=
 Ju (fun s => J4A x5 x6 b1 b3 s) s
theorem J9D {x5 x6 : Int} {b1 b3 : T_api_Image} {B0 B2 : List PV} {B4 B5 B6 : List PV} {s : Int} {o : Bool} (h : J4z x5 x6 b1 b3 s = some o) :
  rk (J2 p) J15 0 [.bl 0, .td 7 [2, 13], .sq (.keep [13] J2v)] (X (J2 p) (.lp 7 [4, 5, 6, 13, 21] J01) ⟨[(4, .ptr 1 0), (5, .p (.i .i64 x5)), (6, .p (.i .i64 x6)), (13, .ptr 3 0), (21, .p (.i .i64 s))], [.box (List.map AV.p B0), .box (List.map AV.p (J7 b1)), .box (List.map AV.p B2), .box (List.map AV.p (J7 b3)), .box (List.map AV.p B4), .box (List.map AV.p B5), .box (List.map AV.p B6)]⟩) = J49 o := by
 have h0 : Ju (fun s => J4A x5 x6 b1 b3 s) s = some o := h
 exact J0m (P := fun (s : Int) (o : Bool) => rk (J2 p) J15 0 [.bl 0, .td 7 [2, 13], .sq (.keep [13] J2v)] (X (J2 p) (.lp 7 [4, 5, 6, 13, 21] J01) ⟨[(4, .ptr 1 0), (5, .p (.i .i64 x5)), (6, .p (.i .i64 x6)), (13, .ptr 3 0), (21, .p (.i .i64 s))], [.box (List.map AV.p B0), .box (List.map AV.p (J7 b1)), .box (List.map AV.p B2), .box (List.map AV.p (J7 b3)), .box (List.map AV.p B4), .box (List.map AV.p B5), .box (List.map AV.p B6)]⟩) = J49 o) (fun s r hs => by rw [J0q]; exact Jam p hs) (fun s s1 r hs ih => by rw [J0q]; exact (Jam p hs).trans ih) h0
def J4g (x0 : List Int) : Option (Bool) :=
 Option.bind (J59) fun r1 =>
 if r1 then
  Option.bind (J7j x0 400) fun r5 =>
  Option.bind (J76 r5) fun r8 =>
  Option.bind (JI r8.2 r8.1.Pages) fun r11 =>
  Option.bind (JI r11.2 r8.1.Pages) fun r15 =>
  Option.bind (J1R r15.2 r11.1) fun r19 =>
  Option.bind (J1Y r19.1) fun r22 =>
  Option.bind (J1R r19.2 r15.1) fun r25 =>
  Option.bind (J1Y r25.1) fun r28 =>
  Option.bind (J0Q r8.1 r11.1 r22.1) fun r31 =>
  Option.bind (J0Q r31.1 r15.1 r28.1) fun r34 =>
  Option.bind (J0Q r8.1 r15.1 r28.1) fun r37 =>
  Option.bind (J0Q r37.1 r11.1 r22.1) fun r40 =>
  if ((r31.2 : Int) != 0) then
   some false
  else
   if ((r34.2 : Int) != 0) then
    some false
   else
    if ((r37.2 : Int) != 0) then
     some false
    else
     if ((r40.2 : Int) != 0) then
      some false
     else
      Option.bind (J3Z r34.1 r15.1) fun r47 =>
      if r47.2 then
       if (r47.1.Data == r28.1) then
        if ((r11.1 : Int) != r15.1) then
         Option.bind (J5H r34.1 r40.1) fun r53 =>
         if r53 then
          J4z r11.1 r15.1 r8.1 r34.1 0
         else
          some false
        else
         J4z r11.1 r15.1 r8.1 r34.1 0
       else
        some false
      else
       some false
 else
  some false
theorem JcS {x0 : List Int} {o : Bool} (h : J4g x0 = some o) :
  rk (J2 p) J15 0 [] (X (J2 p) JH ⟨[(0, .p (.sl 1 (List.map (r_i .u8) x0)))], []⟩) = J49 o := by
 unfold J4g at h
 obtain ⟨r1, h2, h⟩ := bi h
 have f3 := JkA p h2
 try simp only [Nf] at f3
 try simp only [↓Da, Ua, Ra, JH, J9, J5, J1, J3, J8, Ja, *, ↓reduceIte, reduceEqDiff, reduceAdd, reduceLT, reduceMul, Nat.reduceBEq]
 rcases Jb h with ⟨h4, h⟩ | ⟨h4, h⟩
 ·obtain ⟨r5, h6, h⟩ := bi h
  have f7 : ∀ ws new s, (Jj (AF (J2 p)) J8w ([.p (.sl 1 (List.map (r_i .u8) x0)), .p (.i .i64 400)], ws) 1 new).run s = some ⟨.ptr new 0, ws ++ [(new, .box (List.map AV.p (J0 r5)))]⟩ := JoZ rfl (JoI p h6) (Jf _)
  try simp only [Nf] at f7
  obtain ⟨r8, h9, h⟩ := bi h
  have f10 : ∀ ws new s, J07 ws s [0] [List.map AV.p (J0 r5)] → (Jj (AF (J2 p)) J6V ([.ptr 0 0], ws) 0 new).run s = some ⟨.data (J7 r8.1), ws ++ [(0, .box (List.map AV.p (J0 r8.2)))]⟩ := JT (args' := [.ptr 0 0]) (bs := [0]) (css := [List.map AV.p (J0 r5)]) (css' := [List.map AV.p (J0 r8.2)]) rfl rfl rfl (by simp [Jm, Jf]) (Jms p h9) rfl rfl (by simp [Jm, Jf])
  try simp only [Nf] at f10
  obtain ⟨r11, h12, h⟩ := bi h
  have f13 : ∀ ws new s, J07 ws s [0] [List.map AV.p (J0 r8.2)] → (Jj (AF (J2 p)) Jh ([.ptr 0 0, .p (.i .i64 r8.1.Pages)], ws) 0 new).run s = some ⟨.p (.i .i64 r11.1), ws ++ [(0, .box (List.map AV.p (J0 r11.2)))]⟩ := JT (args' := [.ptr 0 0, .p (.i .i64 r8.1.Pages)]) (bs := [0]) (css := [List.map AV.p (J0 r8.2)]) (css' := [List.map AV.p (J0 r11.2)]) rfl rfl rfl (by simp [Jm, Jf]) (JU p h12) rfl rfl (by simp [Jm, Jf])
  try simp only [Nf] at f13
  have f14 : ∀ ws k new s, J07 ws s [0] [List.map AV.p (J0 r8.2)] → Je ((Jj (AF (J2 p)) Jh ([.ptr 0 0, .p (.i .i64 r8.1.Pages)], ws) k new).reads s) = [0] ++ ([0] ++ [0]) := J8O (args' := [.ptr 0 0, .p (.i .i64 r8.1.Pages)]) (bs := [0]) (css := [List.map AV.p (J0 r8.2)]) rfl rfl rfl (by simp [Jm, Jf])
  try simp only [Nf] at f14
  obtain ⟨r15, h16, h⟩ := bi h
  have f17 : ∀ ws new s, J07 ws s [0] [List.map AV.p (J0 r11.2)] → (Jj (AF (J2 p)) Jh ([.ptr 0 0, .p (.i .i64 r8.1.Pages)], ws) 0 new).run s = some ⟨.p (.i .i64 r15.1), ws ++ [(0, .box (List.map AV.p (J0 r15.2)))]⟩ := JT (args' := [.ptr 0 0, .p (.i .i64 r8.1.Pages)]) (bs := [0]) (css := [List.map AV.p (J0 r11.2)]) (css' := [List.map AV.p (J0 r15.2)]) rfl rfl rfl (by simp [Jm, Jf]) (JU p h16) rfl rfl (by simp [Jm, Jf])
  try simp only [Nf] at f17
  have f18 : ∀ ws k new s, J07 ws s [0] [List.map AV.p (J0 r11.2)] → Je ((Jj (AF (J2 p)) Jh ([.ptr 0 0, .p (.i .i64 r8.1.Pages)], ws) k new).reads s) = [0] ++ ([0] ++ [0]) := J8O (args' := [.ptr 0 0, .p (.i .i64 r8.1.Pages)]) (bs := [0]) (css := [List.map AV.p (J0 r11.2)]) rfl rfl rfl (by simp [Jm, Jf])
  try simp only [Nf] at f18
  obtain ⟨r19, h20, h⟩ := bi h
  have f21 : ∀ ws new s, J07 ws s [0] [List.map AV.p (J0 r15.2)] → (Jj (AF (J2 p)) J1r ([.ptr 0 0, .p (.i .i64 r11.1)], ws) 0 new).run s = some ⟨.data (J4 r19.1), ws ++ [(0, .box (List.map AV.p (J0 r19.2)))]⟩ := JT (args' := [.ptr 0 0, .p (.i .i64 r11.1)]) (bs := [0]) (css := [List.map AV.p (J0 r15.2)]) (css' := [List.map AV.p (J0 r19.2)]) rfl rfl rfl (by simp [Jm, Jf]) (J8L p h20) rfl rfl (by simp [Jm, Jf])
  try simp only [Nf] at f21
  obtain ⟨r22, h23, h⟩ := bi h
  have f24 := J8G p h23
  try simp only [Nf] at f24
  obtain ⟨r25, h26, h⟩ := bi h
  have f27 : ∀ ws new s, J07 ws s [0] [List.map AV.p (J0 r19.2)] → (Jj (AF (J2 p)) J1r ([.ptr 0 0, .p (.i .i64 r15.1)], ws) 0 new).run s = some ⟨.data (J4 r25.1), ws ++ [(0, .box (List.map AV.p (J0 r25.2)))]⟩ := JT (args' := [.ptr 0 0, .p (.i .i64 r15.1)]) (bs := [0]) (css := [List.map AV.p (J0 r19.2)]) (css' := [List.map AV.p (J0 r25.2)]) rfl rfl rfl (by simp [Jm, Jf]) (J8L p h26) rfl rfl (by simp [Jm, Jf])
  try simp only [Nf] at f27
  obtain ⟨r28, h29, h⟩ := bi h
  have f30 := J8G p h29
  try simp only [Nf] at f30
  obtain ⟨r31, h32, h⟩ := bi h
  have f33 := JaB p h32
  try simp only [Nf] at f33
  obtain ⟨r34, h35, h⟩ := bi h
  have f36 := JaB p h35
  try simp only [Nf] at f36
  obtain ⟨r37, h38, h⟩ := bi h
  have f39 := JaB p h38
  try simp only [Nf] at f39
  obtain ⟨r40, h41, h⟩ := bi h
  have f42 := JaB p h41
  try simp only [Nf] at f42
  try simp only [↓Da, Ua, Ra, JH, J9, J5, J1, J3, J8, Ja, *, ↓reduceIte, reduceEqDiff, reduceAdd, reduceLT, reduceMul, Nat.reduceBEq]
  rcases Jb h with ⟨h43, h⟩ | ⟨h43, h⟩
  ·obtain rfl := sj h
   try simp only [↓Da, Ua, Ra, JH, J9, J5, J1, J3, J8, Ja, J14, *, ↓reduceIte, reduceEqDiff, reduceAdd, reduceLT, reduceMul, Nat.reduceBEq]
   rfl
  ·try simp only [↓Da, Ua, Ra, JH, J9, J5, J1, J3, J8, Ja, *, ↓reduceIte, reduceEqDiff, reduceAdd, reduceLT, reduceMul, Nat.reduceBEq]
   rcases Jb h with ⟨h44, h⟩ | ⟨h44, h⟩
   ·obtain rfl := sj h
    try simp only [↓Da, Ua, Ra, JH, J9, J5, J1, J3, J8, Ja, J14, *, ↓reduceIte, reduceEqDiff, reduceAdd, reduceLT, reduceMul, Nat.reduceBEq]
    rfl
   ·try simp only [↓Da, Ua, Ra, JH, J9, J5, J1, J3, J8, Ja, *, ↓reduceIte, reduceEqDiff, reduceAdd, reduceLT, reduceMul, Nat.reduceBEq]
    rcases Jb h with ⟨h45, h⟩ | ⟨h45, h⟩
    ·obtain rfl := sj h
     try simp only [↓Da, Ua, Ra, JH, J9, J5, J1, J3, J8, Ja, J14, *, ↓reduceIte, reduceEqDiff, reduceAdd, reduceLT, reduceMul, Nat.reduceBEq]
     rfl
    ·try simp only [↓Da, Ua, Ra, JH, J9, J5, J1, J3, J8, Ja, *, ↓reduceIte, reduceEqDiff, reduceAdd, reduceLT, reduceMul, Nat.reduceBEq]
     rcases Jb h with ⟨h46, h⟩ | ⟨h46, h⟩
     ·obtain rfl := sj h
      try simp only [↓Da, Ua, Ra, JH, J9, J5, J1, J3, J8, Ja, J14, *, ↓reduceIte, reduceEqDiff, reduceAdd, reduceLT, reduceMul, Nat.reduceBEq]
      rfl
     ·obtain ⟨r47, h48, h⟩ := bi h
      have f49 := JbJ p h48
      try simp only [Nf] at f49
      try simp only [↓Da, Ua, Ra, JH, J9, J5, J1, J3, J8, Ja, *, ↓reduceIte, reduceEqDiff, reduceAdd, reduceLT, reduceMul, Nat.reduceBEq]
      rcases Jb h with ⟨h50, h⟩ | ⟨h50, h⟩
      ·try simp only [↓Da, Ua, Ra, JH, J9, J5, J1, J3, J8, Ja, *, ↓reduceIte, reduceEqDiff, reduceAdd, reduceLT, reduceMul, Nat.reduceBEq]
       rcases Jb h with ⟨h51, h⟩ | ⟨h51, h⟩
       ·try simp only [↓Da, Ua, Ra, JH, J9, J5, J1, J3, J8, Ja, *, ↓reduceIte, reduceEqDiff, reduceAdd, reduceLT, reduceMul, Nat.reduceBEq]
        rcases Jb h with ⟨h52, h⟩ | ⟨h52, h⟩
        ·try try rw [h4] at h52
         obtain ⟨r53, h54, h⟩ := bi h
         have f55 := JlJ p h54
         try simp only [Nf] at f55
         try simp only [↓Da, Ua, Ra, JH, J9, J5, J1, J3, J8, Ja, *, ↓reduceIte, reduceEqDiff, reduceAdd, reduceLT, reduceMul, Nat.reduceBEq]
         rcases Jb h with ⟨h56, h⟩ | ⟨h56, h⟩
         ·try simp only [↓Da, Ua, Ra, JH, J9, J5, J1, J3, J8, Ja, *, ↓reduceIte, reduceEqDiff, reduceAdd, reduceLT, reduceMul, Nat.reduceBEq]
          have e0 := J9D p (B0 := (J0 r25.2)) (B2 := (J7 r31.1)) (B4 := (J7 r37.1)) (B5 := (J7 r40.1)) (B6 := (J6 r47.1)) h
          first | exact e0 | (simp only [*] at e0; exact e0)
         ·obtain rfl := sj h
          try simp only [↓Da, Ua, Ra, JH, J9, J5, J1, J3, J8, Ja, J14, *, ↓reduceIte, reduceEqDiff, reduceAdd, reduceLT, reduceMul, Nat.reduceBEq]
          rfl
        ·try try rw [h4] at h52
         try simp only [↓Da, Ua, Ra, JH, J9, J5, J1, J3, J8, Ja, *, ↓reduceIte, reduceEqDiff, reduceAdd, reduceLT, reduceMul, Nat.reduceBEq]
         have e0 := J9D p (B0 := (J0 r25.2)) (B2 := (J7 r31.1)) (B4 := (J7 r37.1)) (B5 := (J7 r40.1)) (B6 := (J6 r47.1)) h
         first | exact e0 | (simp only [*] at e0; exact e0)
       ·obtain rfl := sj h
        try simp only [↓Da, Ua, Ra, JH, J9, J5, J1, J3, J8, Ja, J14, *, ↓reduceIte, reduceEqDiff, reduceAdd, reduceLT, reduceMul, Nat.reduceBEq]
        rfl
      ·obtain rfl := sj h
       try simp only [↓Da, Ua, Ra, JH, J9, J5, J1, J3, J8, Ja, J14, *, ↓reduceIte, reduceEqDiff, reduceAdd, reduceLT, reduceMul, Nat.reduceBEq]
       rfl
 ·obtain rfl := sj h
  try simp only [↓Da, Ua, Ra, JH, J9, J5, J1, J3, J8, Ja, J14, *, ↓reduceIte, reduceEqDiff, reduceAdd, reduceLT, reduceMul, Nat.reduceBEq]
  rfl
theorem JfO {x0 : List Int} {o : Bool} (h : J4g x0 = some o) : AF (J2 p) J6O [.p (.sl 1 (List.map (r_i .u8) x0))] [] = J49 o :=
 (J0r (J2 p) (Jgg p) rfl).trans (JcS p h)
end
end Go.Am
end
section
end
section
namespace Go.Am
theorem wrap64 {n : Int} (h1 : -9223372036854775808 ≤ n) (h2 : n ≤ 9223372036854775807) : IntKind.i64.wrap n = n := by
 simp [IntKind.wrap_i64]; omega
theorem J7H {n : Int} (h1 : 0 ≤ n) (h2 : n < 18446744073709551616) : IntKind.u64.wrap n = n := by
 rw [show IntKind.u64.wrap n = n % 18446744073709551616 by simp [IntKind.wrap, IntKind.bits, IntKind.signed]]; omega
theorem J52 {α : Type} (l : List α) (k : Nat) : idx l (k : Int) = l[k]? := by simp [idx]
theorem J43 {α : Type} {n : Nat} (v : Vector α n) (k : Nat) (h : k < n) : J80 v (k : Int) = some v[k] := by
 have e : (0 : Int) ≤ k ∧ (k : Int) < n := by omega
 simp [J80, e, h]
theorem J7L {n k : Nat} (h : k < n) : inb n (k : Int) = some () := by
 have e : (0 : Int) ≤ k ∧ (k : Int) < n := by omega
 simp [inb, e]
theorem J28 {k : Nat} (h : k < 1000000) : IntKind.i64.wrap ((k : Int) + 1) = ((k + 1 : Nat) : Int) := by
 rw [wrap64 (by omega) (by omega)]; simp
theorem J0P {σ ρ : Type} {f : σ → Option (σ ⊕ ρ)} (I : σ → Prop) (m : σ → Nat) (Q : ρ → Prop)
  (h : ∀ s, I s → (∃ s', f s = some (.inl s') ∧ I s' ∧ m s' < m s) ∨ (∃ r, f s = some (.inr r) ∧ Q r)) : ∀ s, I s → ∃ r, Ju f s = some r ∧ Q r := by
 have key : ∀ n s, m s ≤ n → I s → ∃ r, Ju f s = some r ∧ Q r := by
  intro n
  induction n with
  | zero =>
   intro s hm hs
   rcases h s hs with ⟨s', e, hs', hlt⟩ | ⟨r, e, hq⟩
   ·omega
   ·exact ⟨r, J2A e, hq⟩
  | succ n ih =>
   intro s hm hs
   rcases h s hs with ⟨s', e, hs', hlt⟩ | ⟨r, e, hq⟩
   ·obtain ⟨r, hr, hq⟩ := ih s' (by omega) hs'
    exact ⟨r, (J3q e).trans hr, hq⟩
   ·exact ⟨r, J2A e, hq⟩
 exact fun s hs => key (m s) s (Nat.le_refl _) hs
structure J1o (b : T_pagemenddraw_Codes) : Prop where
 at0 : 0 ≤ b.at_
 at1 : b.at_ ≤ b.l_.length
 len : b.l_.length ≤ 1000
 byte : ∀ x ∈ b.l_, 0 ≤ x ∧ x ≤ 255
theorem JoT {b : T_pagemenddraw_Codes} (hb : J1o b) {n : Int} (h1 : 1 ≤ n) (h2 : n ≤ 256) (m : Nat) : ∃ r b', J4B (m + 1) b n = some (r, b') ∧ J1o b' ∧ 0 ≤ r ∧ r < n := by
 obtain ⟨ha, hb1, hl, hx⟩ := hb
 simp only [J4B, J5M]
 by_cases hc : b.at_ ≥ (b.l_.length : Int)
 ·exact ⟨0, b, by simp [hc], ⟨ha, hb1, hl, hx⟩, by omega, by omega⟩
 ·obtain ⟨k, hk⟩ : ∃ k : Nat, b.at_ = (k : Int) := ⟨b.at_.toNat, by omega⟩
  have hk2 : k < b.l_.length := by omega
  have hy := hx _ (List.getElem_mem hk2)
  have e1 : ¬ n < 1 := by omega
  have e2 : ¬ n > 256 := by omega
  have e3 : idx b.l_ b.at_ = some b.l_[k] := by rw [hk, J52, List.getElem?_eq_getElem hk2]
  have e4 : ¬ n = 0 := by omega
  refine ⟨(b.l_[k]).tmod n, ⟨b.l_, b.at_ + 1⟩, ?_, ⟨by show 0 ≤ b.at_ + 1; omega, by show b.at_ + 1 ≤ (b.l_.length : Int); omega, hl, hx⟩, Int.tmod_nonneg _ hy.1, Int.tmod_lt_of_pos _ (by omega)⟩
  simp only [hc, decide_false, e1, e2, e3, Option.bind_some, Jm0, e4, if_false, Bool.false_eq_true]
  rw [wrap64 (by omega) (by omega), wrap64 (by omega) (by omega)]
theorem J50 {b : T_pagemenddraw_Codes} (hb : J1o b) {n : Int} (h1 : 1 ≤ n) (h2 : n ≤ 256) : ∃ r b', JI b n = some (r, b') ∧ J1o b' ∧ 0 ≤ r ∧ r < n := JoT hb h1 h2 11
theorem JuH {l : List Int} (h : ∀ x ∈ l, 0 ≤ x ∧ x ≤ 255) {n : Nat} (hn : n ≤ 1000) : ∃ b, J7j l (n : Int) = some b ∧ J1o b := by
 unfold J7j J8k
 by_cases hc : (l.length : Int) > n
 ·have : J2H l none (some (n : Int)) = some (l.take n) := by
   have e1 : (0 : Int) ≤ n ∧ n ≤ l.length := by omega
   have e2 : n ≤ l.length := by omega
   simp [J2H, Jf2, Jcx, e2]
  refine ⟨⟨l.take n, 0⟩, by simp [hc, this], ⟨by show (0 : Int) ≤ 0; omega, by show (0 : Int) ≤ _; omega, by simp; omega, fun x hx => h x (List.mem_of_mem_take hx)⟩⟩
 ·exact ⟨⟨l, 0⟩, by simp [hc], ⟨by show (0 : Int) ≤ 0; omega, by show (0 : Int) ≤ _; omega, by show l.length ≤ 1000; omega, h⟩⟩
theorem Jod {b : T_pagemenddraw_Codes} (hb : J1o b) {n : Int} (h0 : 0 ≤ n) (h1 : n ≤ 20) : ∃ s b', J3d n b = some (s, b') ∧ J1o b' := by
 have e0 : mkS 1 0 n (0 : Int) = some [] := by
  have : (0 : Int) ≤ n ∧ 1 * n ≤ 281474976710656 ∧ n ≤ 281474976710656 := by omega
  simp [mkS]; omega
 unfold J3d
 simp only [e0, Option.bind_some]
 obtain ⟨r, hr, hq⟩ := J0P (f := fun s : Int × T_pagemenddraw_Codes × List Int => J2w n s.1 s.2.1 s.2.2)
  (fun s => ∃ k : Nat, s.1 = k ∧ (k : Int) ≤ n ∧ J1o s.2.1 ∧ s.2.2.length = k) (fun s => (n - s.1).toNat) (fun r => J1o r.2)
  (fun s ⟨k, hk, hn, hc, hl⟩ => by
   obtain ⟨i, b, l⟩ := s
   simp only at hk hc hl
   subst hk
   by_cases hlt : (k : Int) < n
   ·left
    obtain ⟨r, b', e1, hb', _, _⟩ := J50 hc (n := 3) (by omega) (by omega)
    have e2 : J5P (l.length + 1) 1 = true := by simp [J5P]; omega
    have e3 : ∀ z : Int, JcB 1 l [z] = some (l ++ [z]) := fun z => by simp only [JcB, List.length_cons, List.length_nil, Nat.zero_add, e2, if_true]
    refine ⟨⟨((k + 1 : Nat) : Int), b', l ++ [IntKind.wrap .u8 (IntKind.wrap .i64 (97 + r))]⟩, ?_, ⟨k + 1, rfl, by simp; omega, hb', by simp [hl]⟩, by simp; omega⟩
    simp only [J2w, hlt, decide_true, if_true, e1, e3, Option.bind_some, J28 (show k < 1000000 by omega)]
   ·right
    refine ⟨(toStr l, b), ?_, hc⟩
    simp [J2w, J5Q, hlt])
  (0, b, []) ⟨0, rfl, by simpa using h0, hb, rfl⟩
 exact ⟨r.1, r.2, hr, hq⟩
def JnO (c : Jc) : Prop := c.Data.length ≤ 12 ∧ (c.Set = false → c.Data = [])
theorem JpN {b : T_pagemenddraw_Codes} (hb : J1o b) : ∃ c b', J4h b = some (c, b') ∧ J1o b' ∧ JnO c := by
 obtain ⟨r, b1, e1, hb1, _, _⟩ := J50 hb (n := 3) (by omega) (by omega)
 unfold J4h
 simp only [e1, Option.bind_some]
 by_cases h0 : r = 0
 ·exact ⟨⟨false, []⟩, b1, by simp [h0], hb1, by simp [JnO]⟩
 ·have hd : ∃ s b', J4i b1 = some (s, b') ∧ J1o b' := by
   unfold J4i
   obtain ⟨r1, b2, e2, hb2, h21, h22⟩ := J50 hb1 (n := 5) (by omega) (by omega)
   obtain ⟨r2, b3, e3, hb3, _, _⟩ := J50 hb2 (n := 6) (by omega) (by omega)
   simp only [e2, e3, Option.bind_some]
   by_cases h6 : r2 = 0
   ·obtain ⟨r3, b4, e4, hb4, h41, h42⟩ := J50 hb3 (n := 14) (by omega) (by omega)
    obtain ⟨s, b5, e5, hb5⟩ := Jod hb4 h41 (by omega)
    exact ⟨s, b5, by simp [h6, e4, e5], hb5⟩
   ·obtain ⟨s, b5, e5, hb5⟩ := Jod hb3 h21 (by omega)
    exact ⟨s, b5, by simp [h6, e5], hb5⟩
  obtain ⟨s, b2, e2, hb2⟩ := hd
  have e3 : J2H s none (some (Jh9 (s.length : Int) 12)) = some (s.take (min s.length 12)) := by
   have e4 : Jh9 (s.length : Int) 12 = ((min s.length 12 : Nat) : Int) := by unfold Jh9; split <;> omega
   have e5 : min s.length 12 ≤ s.length := by omega
   rw [e4]
   simp only [J2H, Jf2, Jcx]
   have e6 : (0 : Int) ≤ ((min s.length 12 : Nat) : Int) ∧ ((min s.length 12 : Nat) : Int) ≤ ((s.length : Nat) : Int) := by omega
   simp only [e6, and_self, if_true, Int.toNat_natCast, List.drop_zero, Nat.sub_zero]
  refine ⟨⟨true, s.take (min s.length 12)⟩, b2, ?_, hb2, ?_⟩
  ·simp only [e2, Option.bind_some, e3]
   simp [h0]
  ·refine ⟨?_, fun h => by cases h⟩
   simp only [List.length_take]; omega
def J5r (lsn : Int) (c : Jc) : Prop := c.Data.length ≤ 12 ∧ (c.Set = false → c.Data = []) ∧ (c.Set = true → lsn ≠ 0)
structure J3N (p : T_api_Page) : Prop where
 id0 : 0 ≤ p.ID
 id1 : p.ID < 64
 lsn0 : 0 ≤ p.LSN
 lsn1 : p.LSN ≤ 1099511627776
 cells : ∀ (i : Nat) (h : i < 16), J5r p.LSN (p.Cells[i])
theorem JmU {id lsn : Int} (h0 : 0 ≤ id) (h1 : id < 64) (h2 : 0 ≤ lsn) (h3 : lsn ≤ 1099511627776) : J3N ⟨id, lsn, Vector.replicate 16 ⟨false, []⟩⟩ :=
 ⟨h0, h1, h2, h3, fun i h => by simp [J5r]⟩
theorem Jpo {b : T_pagemenddraw_Codes} (hb : J1o b) {id : Int} (h0 : 0 ≤ id) (h1 : id < 64) : ∃ p b', J1R b id = some (p, b') ∧ J1o b' ∧ J3N p ∧ p.ID = id := by
 have go : ∀ (b : T_pagemenddraw_Codes) (lsn : Int) (b1 : T_api_Page), J1o b → 0 ≤ lsn → lsn ≤ 1099511627776 →
   ∃ p b', J3a b b1 ⟨id, lsn, Vector.replicate 16 ⟨false, []⟩⟩ = some (p, b') ∧ J1o b' ∧ J3N p ∧ p.ID = id := by
  intro b lsn b1 hb hl0 hl1
  unfold J3a
  by_cases hl : lsn > 0
  ·obtain ⟨r, b2, e1, hb2, hr0, hr1⟩ := J50 hb (n := 6) (by omega) (by omega)
   obtain ⟨o, ho, hq⟩ := J0P (f := fun s : Int × T_pagemenddraw_Codes × T_api_Page => J2u b1 s.1 s.2.1 s.2.2)
    (fun s => 0 ≤ s.1 ∧ s.1 ≤ 6 ∧ J1o s.2.1 ∧ J3N s.2.2 ∧ s.2.2.ID = id ∧ s.2.2.LSN = lsn) (fun s => s.1.toNat) (fun r => J1o r.2 ∧ J3N r.1 ∧ r.1.ID = id)
    (fun s ⟨i0, i1, hc, hp, hid, hlsn⟩ => by
     obtain ⟨i, b, p⟩ := s
     simp only at i0 i1 hc hp hid hlsn
     by_cases hi : i > 0
     ·left
      obtain ⟨r, b2, e1, hb2, hr0, hr1⟩ := J50 hc (n := 16) (by omega) (by omega)
      obtain ⟨c, b3, e2, hb3, hcf⟩ := JpN hb2
      obtain ⟨k, rfl⟩ : ∃ k : Nat, r = (k : Int) := ⟨r.toNat, by omega⟩
      have hk : k < 16 := by omega
      refine ⟨⟨i - 1, b3, ⟨p.ID, p.LSN, J7Z p.Cells (k : Int) c⟩⟩, ?_, ⟨by show 0 ≤ i - 1; omega, by show i - 1 ≤ 6; omega, hb3, ?_, hid, hlsn⟩, by show (i - 1).toNat < i.toNat; omega⟩
      ·simp only [J2u, hi, decide_true, if_true, e1, e2, Option.bind_some, J7L hk, J43 _ k hk, wrap64 (show -9223372036854775808 ≤ i - 1 by omega) (by omega)]
      ·refine ⟨hp.id0, hp.id1, hp.lsn0, hp.lsn1, fun j hj => ?_⟩
       show J5r p.LSN ((J7Z p.Cells (k : Int) c)[j])
       simp only [J7Z, Int.toNat_natCast, Vector.getElem_setIfInBounds]
       split
       ·exact ⟨hcf.1, hcf.2, fun _ => by rw [hlsn]; omega⟩
       ·exact hp.cells j hj
     ·right
      exact ⟨(p, b), by simp [J2u, J3c, hi], hc, hp, hid⟩)
    (r, b2, ⟨id, lsn, Vector.replicate 16 ⟨false, []⟩⟩) ⟨hr0, by show r ≤ 6; omega, hb2, JmU h0 h1 hl0 hl1, rfl, rfl⟩
   refine ⟨o.1, o.2, ?_, hq.1, hq.2⟩
   simp only [hl, decide_true, if_true, e1, Option.bind_some]
   exact ho
  ·exact ⟨_, b, by simp [hl, J3c], hb, JmU h0 h1 hl0 hl1, rfl⟩
 obtain ⟨r, b1, e1, hb1, hr0, hr1⟩ := J50 hb (n := 50) (by omega) (by omega)
 obtain ⟨r2, b2, e2, hb2, _, _⟩ := J50 hb1 (n := 10) (by omega) (by omega)
 unfold J1R
 simp only [e1, e2, Option.bind_some]
 by_cases h9 : r2 = 9
 ·obtain ⟨r3, b3, e3, hb3, h30, h31⟩ := J50 hb2 (n := 2) (by omega) (by omega)
  have e4 : IntKind.wrap .i64 (1099511627776 - r3) = 1099511627776 - r3 := wrap64 (by omega) (by omega)
  simp only [h9, e3, Option.bind_some, e4]
  exact go b3 _ _ hb3 (by omega) (by omega)
 ·have e5 : ((r2 : Int) == 9) = false := by simpa using h9
  simp only [e5, Bool.false_eq_true, if_false]
  exact go b2 _ _ hb2 (by omega) (by omega)
end Go.Am
end
section
namespace Go.Am
theorem JqK {a b : Int} (ha : 0 ≤ a) (ha2 : a ≤ 1099511627776) (hb : 0 ≤ b) (hb2 : b ≤ 1099511627776) (h : Jv a 8 = Jv b 8) : a = b := by
 have key : ∀ i : Nat, i < 8 → J3V a i = J3V b i := by
  intro i hi
  have h2 : (Jv a 8)[i]? = (Jv b 8)[i]? := by rw [h]
  simp only [Jv, toStr, List.map_map, List.getElem?_map, List.getElem?_range hi, Option.map_some, Function.comp, Option.some.injEq] at h2
  have h3 := congrArg (fun u : UInt8 => (u.toNat : Int)) h2
  simp only [Jbh] at h3
  exact h3
 have e : ∀ (n : Int) (i : Nat), 0 ≤ n → n ≤ 1099511627776 → J3V n i = n / (2 ^ (8 * i)) % 256 := by
  intro n i h0 h1
  show ((IntKind.wrap .u64 n).fdiv (2 ^ (8 * i))) % 256 = _
  rw [Int.fdiv_eq_ediv_of_nonneg _ (Int.le_of_lt (Int.pow_pos (by decide))), J7H h0 (by omega)]
 have k0 := key 0 (by omega); have k1 := key 1 (by omega); have k2 := key 2 (by omega); have k3 := key 3 (by omega); have k4 := key 4 (by omega); have k5 := key 5 (by omega)
 rw [e _ _ ha ha2, e _ _ hb hb2] at k0 k1 k2 k3 k4 k5
 simp only [Nat.mul_zero, reduceMul, Int.reducePow] at k0 k1 k2 k3 k4 k5
 omega
theorem JvA (x : Int) : ∃ k : Nat, J4G .u32 x 15 = (k : Int) ∧ k < 16 := by
 have h : (BitVec.ofInt 32 x &&& BitVec.ofInt 32 15).toNat ≤ 15 := by
  rw [BitVec.toNat_and]
  exact Nat.and_le_right
 refine ⟨(BitVec.ofInt 32 x &&& BitVec.ofInt 32 15).toNat, ?_, by omega⟩
 show (((BitVec.ofInt 32 x &&& BitVec.ofInt 32 15).toNat : Nat) : Int) % 4294967296 = _
 omega
theorem Jla : ∃ v, J2F = some v := by
 have inner : ∀ (k : Nat) (b0 b1 : Vector Int 16), k < 16 → ∀ r : Int, ∃ o, J7k k k b0 b1 (r, 0) = some o ∧ ∃ v, o = .inl (((k + 1 : Nat) : Int), v) := by
  intro k b0 b1 hk r
  refine J0P (f := fun s : Int × Int => J0u k k b0 b1 s.1 s.2) (fun s => ∃ j : Nat, s.2 = j ∧ j ≤ 4) (fun s => (4 - s.2).toNat) _ (fun s ⟨j, hj, h4⟩ => ?_) (r, 0) ⟨0, rfl, by omega⟩
  obtain ⟨x, j'⟩ := s
  simp only at hj
  subst hj
  by_cases hlt : j < 4
  ·left
   have e1 : ((j : Nat) : Int) < 4 := by omega
   have e2 : J7V .u32 x 1 = some (x.fdiv (2 ^ (min (1 : Int).toNat IntKind.u32.bits))) := rfl
   by_cases hb : J4G .u32 x 1 = 1
   ·exact ⟨⟨_, ((j + 1 : Nat) : Int)⟩, by simp only [J0u, e1, decide_true, if_true, hb, beq_self_eq_true, e2, Option.bind_some, J28 (show j < 1000000 by omega)]; rfl, ⟨j + 1, rfl, by omega⟩, by simp; omega⟩
   ·have e3 : (J4G .u32 x 1 == 1) = false := by simpa using hb
    exact ⟨⟨_, ((j + 1 : Nat) : Int)⟩, by simp only [J0u, e1, decide_true, if_true, e3, Bool.false_eq_true, if_false, e2, Option.bind_some, J28 (show j < 1000000 by omega)]; rfl, ⟨j + 1, rfl, by omega⟩, by simp; omega⟩
  ·right
   have e1 : ¬ ((j : Nat) : Int) < 4 := by omega
   exact ⟨.inl (((k + 1 : Nat) : Int), J7Z b1 k x), by simp only [J0u, e1, decide_false, Bool.false_eq_true, if_false, J42, J3T, J7L hk, J43 _ k hk, Option.bind_some, Option.map_some, J28 (show k < 1000000 by omega)], _, rfl⟩
 obtain ⟨v, hv, _⟩ := J0P (f := fun s : Int × Vector Int 16 => J0S (Vector.replicate 16 0) s.1 s.2) (fun s => ∃ j : Nat, s.1 = j ∧ j ≤ 16) (fun s => (16 - s.1).toNat) (fun _ => True) (fun s ⟨j, hj, h4⟩ => by
  obtain ⟨j', b1⟩ := s
  simp only at hj
  subst hj
  by_cases hlt : j < 16
  ·left
   have e1 : ((j : Nat) : Int) < 16 := by omega
   obtain ⟨o, ho, v, rfl⟩ := inner j (Vector.replicate 16 0) b1 hlt (IntKind.wrap .u32 (j : Int))
   exact ⟨⟨((j + 1 : Nat) : Int), v⟩, by simp only [J0S, e1, decide_true, if_true]; exact ho, ⟨j + 1, rfl, by omega⟩, by simp; omega⟩
  ·right
   have e1 : ¬ ((j : Nat) : Int) < 16 := by omega
   exact ⟨b1, by simp only [J0S, e1, decide_false, Bool.false_eq_true, if_false, J44, Option.map_some], trivial⟩) (0, Vector.replicate 16 0) ⟨0, rfl, by omega⟩
 exact ⟨v, hv⟩
theorem J8D {l : List UInt8} {k : Nat} (h : k < l.length) : Jcu l (k : Int) = some ((l[k]).toNat : Int) := by
 have e : (0 : Int) ≤ k := by omega
 simp [Jcu, e, h]
theorem JmJ (l : List UInt8) (hl : l.length ≤ 1000) : ∃ r, J1G l = some r := by
 obtain ⟨v, hv⟩ := Jla
 obtain ⟨r, hr, _⟩ := J0P (f := fun s : Int × Int => J1T l (l.length : Int) v s.1 s.2) (fun s => ∃ j : Nat, s.2 = j ∧ j ≤ l.length) (fun s => (l.length - s.2).toNat) (fun _ => True) (fun s ⟨j, hj, h4⟩ => by
  obtain ⟨x, j'⟩ := s
  simp only at hj
  subst hj
  by_cases hlt : j < l.length
  ·left
   have e1 : ((j : Nat) : Int) < (l.length : Int) := by omega
   have e2 : ∀ z : Int, J7V .u32 z 4 = some (z.fdiv (2 ^ (min (4 : Int).toNat IntKind.u32.bits))) := fun _ => rfl
   have e3 : ∀ z : Int, ∃ y, inb 16 (J4G .u32 z 15) = some () ∧ J80 v (J4G .u32 z 15) = some y := by
    intro z
    obtain ⟨k, hk, hk2⟩ := JvA z
    rw [hk]
    exact ⟨_, J7L hk2, J43 _ k hk2⟩
   obtain ⟨y1, a1, a2⟩ := e3 (J5S .u32 x (IntKind.wrap .u32 (((l[j]).toNat : Nat) : Int)))
   obtain ⟨y2, a3, a4⟩ := e3 (J5S .u32 ((J5S .u32 x (IntKind.wrap .u32 (((l[j]).toNat : Nat) : Int))).fdiv (2 ^ (min (4 : Int).toNat IntKind.u32.bits))) y1)
   exact ⟨⟨_, ((j + 1 : Nat) : Int)⟩, by simp only [J1T, e1, decide_true, if_true, J8D hlt, Option.bind_some, e2, a1, a2, a3, a4, J28 (show j < 1000000 by omega)]; rfl, ⟨j + 1, rfl, by omega⟩, by simp; omega⟩
  ·right
   have e1 : ¬ ((j : Nat) : Int) < (l.length : Int) := by omega
   exact ⟨_, by simp only [J1T, e1, decide_false, Bool.false_eq_true, if_false, J5W, Option.map_some]; rfl, trivial⟩) (4294967295, 0) ⟨0, rfl, by omega⟩
 exact ⟨r, by unfold J1G; rw [hv]; exact hr⟩
theorem J8X (l : List UInt8) (n : Int) {k : Nat} (h1 : 1 ≤ k) (h8 : k ≤ 8) (hl : l.length ≤ 1000) : J0s l n (k : Int) = some (l ++ Jv n k) := by
 have e1 : ¬ ((k : Int) < 1 ∨ 8 < (k : Int)) := by omega
 have e2 : l.length + 8 ≤ 140737488355328 := by omega
 show Jfc l n k = _
 rw [Jfc, if_neg e1, if_pos e2]
 simp
theorem Jd0 {a b : List UInt8} (ha : a.length ≤ 1000) (hb : b.length ≤ 1000) : J46 a b = some (a ++ b) := by
 have e : a.length + b.length ≤ 4611686018427387904 := by omega
 simp [J46, e]
theorem JbA {n : Int} (h0 : 0 ≤ n) (h1 : n ≤ 1000) : J3A [0] n = some (List.replicate n.toNat 0) := by
 show Jjd [0] n = _
 have e : (0 : Int) ≤ n ∧ n ≤ 9223372036854775807 ∧ ([0] : List UInt8).length * n.toNat ≤ 140737488355328 := by
  refine ⟨h0, by omega, ?_⟩
  simp; omega
 rw [Jjd, if_pos e]
 have : ∀ k : Nat, (List.replicate k ([0] : List UInt8)).flatten = List.replicate k 0 := by
  intro k
  induction k with
  | zero => rfl
  | succ k ih => rw [List.replicate_succ, List.flatten_cons, ih]; rfl
 rw [this]
theorem Jpa (b : T_page_builder) (c : Jc) (hc : c.Data.length ≤ 12) (hb : b.s_.length ≤ 300) : ∃ t, J1P b c = some ⟨b.s_ ++ t⟩ ∧ t.length = 13 := by
 have go : ∀ x : Int, ∃ t, J1p x b c = some ⟨b.s_ ++ t⟩ ∧ t.length = 13 := by
  intro x
  have e0 : IntKind.wrap .i64 (12 - ((c.Data.length : Nat) : Int)) = ((12 - c.Data.length : Nat) : Int) := by rw [wrap64 (by omega) (by omega)]; omega
  have e1 := J8X b.s_ x (k := 1) (by omega) (by omega) (by omega)
  have e2 : J46 (b.s_ ++ Jv x 1) c.Data = some (b.s_ ++ Jv x 1 ++ c.Data) := Jd0 (by rw [List.length_append, Jo]; omega) (by omega)
  have e3 := JbA (n := ((12 - c.Data.length : Nat) : Int)) (by omega) (by omega)
  have e4 : J46 (b.s_ ++ Jv x 1 ++ c.Data) (List.replicate (((12 - c.Data.length : Nat) : Int)).toNat 0) = some (b.s_ ++ Jv x 1 ++ c.Data ++ List.replicate (((12 - c.Data.length : Nat) : Int)).toNat 0) := Jd0 (by simp only [List.length_append, Jo]; omega) (by simp; omega)
  refine ⟨Jv x 1 ++ c.Data ++ List.replicate (((12 - c.Data.length : Nat) : Int)).toNat 0, ?_, ?_⟩
  ·unfold J1p
   rw [show (1 : Int) = ((1 : Nat) : Int) by rfl, e1, Option.bind_some, e2, Option.bind_some, e0, e3, Option.bind_some, e4, Option.bind_some]
   simp only [List.append_assoc]
  ·simp only [List.length_append, Jo, List.length_replicate]; omega
 unfold J1P
 split
 ·exact go _
 ·exact go _
structure JoR (p : T_api_Page) (r : List UInt8 × Int) : Prop where
 ok : r.2 = 0
 len : r.1.length = 256
 head : r.1.take 8 = Jv p.LSN 8
 tail : r.1.drop 248 = Jv p.LSN 8
 id : (r.1.drop 8).take 4 = Jv p.ID 4
theorem Jkj (p : T_api_Page) : ∃ b, J4X p = some b ∧ (b = true → ∀ (i : Nat) (h : i < 16), (p.Cells[i]).Data.length ≤ 12) ∧ ((∀ (i : Nat) (h : i < 16), J5r p.LSN p.Cells[i]) → b = true) := by
 refine J0P (f := fun s : Int => J0e p.Cells p s) (fun s => ∃ j : Nat, s = j ∧ j ≤ 16 ∧ ∀ (i : Nat) (h : i < 16), i < j → (p.Cells[i]).Data.length ≤ 12) (fun s => (16 - s).toNat)
  (fun b => (b = true → ∀ (i : Nat) (h : i < 16), (p.Cells[i]).Data.length ≤ 12) ∧ ((∀ (i : Nat) (h : i < 16), J5r p.LSN p.Cells[i]) → b = true)) (fun s ⟨j, hj, h4, hc⟩ => ?_) 0 ⟨0, rfl, by omega, fun i h hh => by omega⟩
 subst hj
 by_cases hlt : j < 16
 ·have e1 : ((j : Nat) : Int) < 16 := by omega
  have e2 := J43 p.Cells j hlt
  have e3 := J28 (show j < 1000000 by omega)
  have bad : ¬ J5r p.LSN p.Cells[j] → (∀ (i : Nat) (h : i < 16), J5r p.LSN p.Cells[i]) → false = true := fun h1 h2 => (h1 (h2 j hlt)).elim
  by_cases h12 : (((p.Cells[j]).Data.length : Nat) : Int) > 12
  ·right
   exact ⟨false, by simp only [J0e, e1, decide_true, if_true, e2, Option.bind_some, h12], fun h => (by cases h), bad fun h => by have := h.1; omega⟩
  ·have nxt : ∀ (i : Nat) (h : i < 16), i < j + 1 → (p.Cells[i]).Data.length ≤ 12 := by
    intro i hi hij
    by_cases hh : i < j
    ·exact hc i hi hh
    ·obtain rfl : i = j := by omega
     omega
   by_cases hs : (p.Cells[j]).Set = true
   ·by_cases hl : p.LSN = 0
    ·right
     exact ⟨false, by simp only [J0e, e1, decide_true, if_true, e2, Option.bind_some, h12, decide_false, Bool.false_eq_true, if_false, hs, hl, beq_self_eq_true], fun h => (by cases h), bad fun h => h.2.2 hs hl⟩
    ·left
     have e4 : (p.LSN == 0) = false := by simpa using hl
     exact ⟨((j + 1 : Nat) : Int), by simp only [J0e, e1, decide_true, if_true, e2, Option.bind_some, h12, decide_false, Bool.false_eq_true, if_false, hs, e4, e3], ⟨j + 1, rfl, by omega, nxt⟩, by omega⟩
   ·have hs' : (p.Cells[j]).Set = false := by simpa using hs
    by_cases hd : (p.Cells[j]).Data = []
    ·left
     exact ⟨((j + 1 : Nat) : Int), by simp only [J0e, e1, decide_true, if_true, e2, Option.bind_some, h12, decide_false, Bool.false_eq_true, if_false, hs', hd, beq_self_eq_true, e3]; rfl, ⟨j + 1, rfl, by omega, nxt⟩, by omega⟩
    ·right
     have e4 : ((p.Cells[j]).Data == []) = false := by simpa using hd
     exact ⟨false, by simp only [J0e, e1, decide_true, if_true, e2, Option.bind_some, h12, decide_false, Bool.false_eq_true, if_false, hs', e4], fun h => (by cases h), bad fun h => hd (h.2.1 hs')⟩
 ·right
  have e1 : ¬ ((j : Nat) : Int) < 16 := by omega
  exact ⟨true, by simp only [J0e, e1, decide_false, Bool.false_eq_true, if_false, J7c, Option.map_some], fun _ i h => hc i h (by omega), fun _ => rfl⟩
end Go.Am
end
section
namespace Go.Am
theorem Jnu {σ ρ : Type} {f g : σ → Option (σ ⊕ ρ)} (I : σ → Prop) (h1 : ∀ s, I s → f s = g s) (h2 : ∀ s s', I s → f s = some (.inl s') → I s') {s : σ} (hs : I s) : Ju f s = Ju g s := by
 have key : ∀ (f g : σ → Option (σ ⊕ ρ)), (∀ s, I s → f s = g s) → (∀ s s', I s → f s = some (.inl s') → I s') → ∀ r s, I s → Ju f s = some r → Ju g s = some r := by
  intro f g h1 h2 r s hs h
  exact J0m (P := fun s r => I s → Ju g s = some r) (fun s r e hs => J2A ((h1 s hs) ▸ e)) (fun s s' r e ih hs => (J3q ((h1 s hs) ▸ e)).trans (ih (h2 s s' hs e))) h hs
 cases hf : Ju f s with
 | some r => exact (key f g h1 h2 r s hs hf).symm
 | none =>
  cases hg : Ju g s with
  | none => rfl
  | some r => rw [key g f (fun s hs => (h1 s hs).symm) (fun s s' hs e => h2 s s' hs ((h1 s hs).trans e)) r s hs hg] at hf; cases hf
theorem JpH {σ ρ τ ρ' : Type} {f : σ → Option (σ ⊕ ρ)} {g : τ → Option (τ ⊕ ρ')} (R : σ → τ → Prop) (K : ρ → ρ' → Prop)
  (h1 : ∀ s t s', R s t → f s = some (.inl s') → ∃ t', g t = some (.inl t') ∧ R s' t') (h2 : ∀ s t r, R s t → f s = some (.inr r) → ∃ r', g t = some (.inr r') ∧ K r r')
  {s : σ} {t : τ} {r : ρ} (hR : R s t) (h : Ju f s = some r) : ∃ r', Ju g t = some r' ∧ K r r' := by
 exact J0m (P := fun s r => ∀ t, R s t → ∃ r', Ju g t = some r' ∧ K r r')
  (fun s r e t ht => by obtain ⟨r', a, b⟩ := h2 s t r ht e; exact ⟨r', J2A a, b⟩)
  (fun s s' r e ih t ht => by obtain ⟨t', a, b⟩ := h1 s t s' ht e; obtain ⟨r', c, d⟩ := ih t' b; exact ⟨r', (J3q a).trans c, d⟩) h t hR
theorem Jbt {a b : List UInt8} (h : a.length + b.length ≤ 1000000000) : J46 a b = some (a ++ b) := by
 have e : a.length + b.length ≤ 4611686018427387904 := by omega
 simp [J46, e]
theorem Jfu (l : List UInt8) (n : Int) {k : Nat} (h1 : 1 ≤ k) (h8 : k ≤ 8) (hl : l.length ≤ 1000000) : J0s l n (k : Int) = some (l ++ Jv n k) := by
 have e1 : ¬ ((k : Int) < 1 ∨ 8 < (k : Int)) := by omega
 have e2 : l.length + 8 ≤ 140737488355328 := by omega
 show Jfc l n k = _
 rw [Jfc, if_neg e1, if_pos e2]
 simp
theorem JlK {n : Int} (h1 : 0 ≤ n) (h2 : n < 1000000) : IntKind.wrap .u64 (IntKind.wrap .i64 n) = n := by
 rw [wrap64 (by omega) (by omega), J7H h1 (by omega)]
theorem J9Z (l : List UInt8) (n : Int) {k : Nat} (h1 : 1 ≤ k) (h8 : k ≤ 8) (hl : l.length ≤ 1000000) : J1t l n (k : Int) = some (l ++ Jv n k) := by
 have c1 : ¬ (k : Int) < 1 := by omega
 have c2 : ¬ (k : Int) > 8 := by omega
 have key : ∀ (m j : Nat), j + m = k → Ju (fun s : List UInt8 × Int => J58 n k s.1 s.2) (l ++ Jv n j, (j : Int)) = some (l ++ Jv n k) := by
  intro m
  induction m with
  | zero =>
   intro j hj
   obtain rfl : j = k := by omega
   have e1 : ¬ ((j : Nat) : Int) < (j : Int) := by omega
   refine J2A ?_
   simp only [J58, e1, decide_false, Bool.false_eq_true, if_false, J9h, Option.map_some]
  | succ m ih =>
   intro j hj
   have e1 : ((j : Nat) : Int) < (k : Int) := by omega
   have e2 : IntKind.wrap .u64 (IntKind.wrap .i64 (8 * (j : Int))) = 8 * (j : Int) := JlK (by omega) (by omega)
   have e3 : J7V .u64 (IntKind.wrap .u64 n) (8 * (j : Int)) = some ((IntKind.wrap .u64 n).fdiv (2 ^ (8 * j))) := by
    simp only [J7V]
    rw [if_neg (by omega)]
    have : min (8 * (j : Int)).toNat IntKind.u64.bits = 8 * j := by
     rw [show (8 * (j : Int)).toNat = 8 * j by omega]
     exact Nat.min_eq_left (by show 8 * j ≤ 64; omega)
    rw [this]
   have e4 : toStr [IntKind.wrap .u8 ((IntKind.wrap .u64 n).fdiv (2 ^ (8 * j)))] = [UInt8.ofNat (J3V n j).toNat] := rfl
   have e5 : J46 (l ++ Jv n j) [UInt8.ofNat (J3V n j).toNat] = some (l ++ Jv n (j + 1)) := by
    rw [Jbt (by rw [List.length_append, Jo]; simp; omega), JjJ, List.append_assoc]
   refine (J3q (s' := (l ++ Jv n (j + 1), ((j + 1 : Nat) : Int))) ?_).trans (ih (j + 1) (by omega))
   simp only [J58, e1, decide_true, if_true, e2, e3, Option.bind_some, e4, e5, J28 (show j < 1000000 by omega)]
 unfold J1t
 simp only [c1, c2, decide_false, Bool.false_eq_true, if_false]
 have h0 := key k 0 (by omega)
 have e : Jv n 0 = [] := rfl
 rw [e, List.append_nil] at h0
 exact h0
theorem Jjs (s : List UInt8) (at_ : Int) {k : Int} (h1 : 1 ≤ k) (h8 : k ≤ 8) : J2K s at_ k = J0g s at_ k := by
 have key : JaS s at_ k (0, 0) = JaU s at_ k (0, 0) := by
  refine Jnu (fun q : Int × Int => 0 ≤ q.2 ∧ q.2 ≤ k) (fun q ⟨h0, h2⟩ => ?_) (fun q q' ⟨h0, h2⟩ e => ?_) ⟨by simp, by simp; omega⟩
  ·have e2 : IntKind.wrap .u64 (IntKind.wrap .i64 (8 * q.2)) = 8 * q.2 := JlK (by omega) (by omega)
   have e3 : IntKind.wrap .i64 (8 * q.2) = 8 * q.2 := wrap64 (by omega) (by omega)
   have e4 : IntKind.wrap .u64 (8 * q.2) = 8 * q.2 := J7H (by omega) (by omega)
   simp only [J63, J0h, e3, e4]
   rfl
  ·simp only [J63] at e
   split at e
   ·rename_i hlt
    simp only [decide_eq_true_eq] at hlt
    simp only [Option.bind_eq_some_iff, Option.some.injEq, Sum.inl.injEq] at e
    obtain ⟨_, _, _, _, rfl⟩ := e
    have e3 : IntKind.wrap .i64 (q.2 + 1) = q.2 + 1 := wrap64 (by omega) (by omega)
    simp only [e3]
    omega
   ·simp [J98] at e
 unfold J2K J0g
 rw [key]
def P32 : Nat := 2197175160
def gb (c : Nat) : Nat := if c % 2 = 1 then c / 2 ^^^ P32 else c / 2
def gN : Nat → Nat → Nat
 | 0, c => c
 | j + 1, c => gN j (gb c)
def sl (b : Nat) : Nat := if b = 1 then P32 else 0
theorem JhD (c : Nat) : gb c = c / 2 ^^^ sl (c % 2) := by
 unfold gb sl
 split
 ·rfl
 ·rw [Nat.xor_zero]
theorem Jv7 (x y : Nat) : gb (x ^^^ y) = gb x ^^^ gb y := by
 have e1 : (x ^^^ y) / 2 = x / 2 ^^^ y / 2 := by have := @Nat.xor_div_two_pow x y 1; simpa using this
 have e2 : (x ^^^ y) % 2 = x % 2 ^^^ y % 2 := by have := @Nat.xor_mod_two_pow x y 1; simpa using this
 simp only [JhD, e1, e2]
 have e3 : sl (x % 2 ^^^ y % 2) = sl (x % 2) ^^^ sl (y % 2) := by
  rcases Nat.mod_two_eq_zero_or_one x with h | h <;> rcases Nat.mod_two_eq_zero_or_one y with h' | h' <;> rw [h, h'] <;> decide
 rw [e3]
 ac_rfl
theorem JhK : ∀ (j x y : Nat), gN j (x ^^^ y) = gN j x ^^^ gN j y
 | 0, _, _ => rfl
 | j + 1, x, y => by simp only [gN]; rw [Jv7, JhK j]
theorem Jqy : ∀ (i j x : Nat), gN (i + j) x = gN j (gN i x)
 | 0, j, x => by simp [gN]
 | i + 1, j, x => by rw [Nat.succ_add]; simp only [gN]; exact Jqy i j _
theorem Jok (c : Nat) : gN 4 c = c / 16 ^^^ (sl (c / 8 % 2) ^^^ gN 1 (sl (c / 4 % 2)) ^^^ gN 2 (sl (c / 2 % 2)) ^^^ gN 3 (sl (c % 2))) := by
 have s1 : gN 4 c = gN 3 (c / 2) ^^^ gN 3 (sl (c % 2)) := by
  rw [← JhK, ← JhD]; rfl
 have s2 : gN 3 (c / 2) = gN 2 (c / 4) ^^^ gN 2 (sl (c / 2 % 2)) := by
  rw [← JhK, show c / 4 = c / 2 / 2 by omega, ← JhD]; rfl
 have s3 : gN 2 (c / 4) = gN 1 (c / 8) ^^^ gN 1 (sl (c / 4 % 2)) := by
  rw [← JhK, show c / 8 = c / 4 / 2 by omega, ← JhD]; rfl
 have s4 : gN 1 (c / 8) = c / 16 ^^^ sl (c / 8 % 2) := by
  rw [show c / 16 = c / 8 / 2 by omega, ← JhD]; rfl
 rw [s1, s2, s3, s4]
 ac_rfl
theorem Jsc (c : Nat) : gN 4 c = c / 16 ^^^ gN 4 (c % 16) := by
 rw [Jok c, Jok (c % 16)]
 have a0 : c % 16 / 16 = 0 := by omega
 have a1 : c % 16 / 8 % 2 = c / 8 % 2 := by omega
 have a2 : c % 16 / 4 % 2 = c / 4 % 2 := by omega
 have a3 : c % 16 / 2 % 2 = c / 2 % 2 := by omega
 have a4 : c % 16 % 2 = c % 2 := by omega
 rw [a0, a1, a2, a3, a4, Nat.zero_xor]
theorem JlD : P32 < 2 ^ 32 := by decide
theorem JoX {c : Nat} (h : c < 2 ^ 32) : gb c < 2 ^ 32 := by
 unfold gb
 split
 ·exact Nat.xor_lt_two_pow (by omega) JlD
 ·omega
theorem JfG : ∀ {j c : Nat}, c < 2 ^ 32 → gN j c < 2 ^ 32
 | 0, _, h => h
 | j + 1, _, h => JfG (j := j) (JoX h)
theorem Jar (n : Nat) (h : n < 2 ^ 32) : IntKind.wrap .u32 (n : Int) = (n : Int) := by
 rw [show IntKind.wrap .u32 (n : Int) = (n : Int) % 4294967296 from rfl]; omega
theorem Jjw {n : Nat} (h : n < 2 ^ 32) : (BitVec.ofInt 32 (n : Int)).toNat = n := by
 rw [BitVec.toNat_ofInt]; omega
theorem Jbw {x y : Nat} (hx : x < 2 ^ 32) (hy : y < 2 ^ 32) : J5S .u32 (x : Int) (y : Int) = ((x ^^^ y : Nat) : Int) := by
 show IntKind.wrap .u32 (((BitVec.ofInt 32 (x : Int) ^^^ BitVec.ofInt 32 (y : Int)).toNat : Nat) : Int) = _
 rw [BitVec.toNat_xor, Jjw hx, Jjw hy, Jar _ (Nat.xor_lt_two_pow hx hy)]
theorem Jm1 {x : Nat} (hx : x < 2 ^ 32) (k : Nat) (hk : k ≤ 20) : J4G .u32 (x : Int) ((2 ^ k - 1 : Nat) : Int) = ((x % 2 ^ k : Nat) : Int) := by
 show IntKind.wrap .u32 (((BitVec.ofInt 32 (x : Int) &&& BitVec.ofInt 32 ((2 ^ k - 1 : Nat) : Int)).toNat : Nat) : Int) = _
 have h2 : 2 ^ k - 1 < 2 ^ 32 := by
  have : (2 : Nat) ^ k ≤ 2 ^ 20 := Nat.pow_le_pow_right (by omega) hk
  omega
 rw [BitVec.toNat_and, Jjw hx, Jjw h2, Nat.and_two_pow_sub_one_eq_mod, Jar _ (Nat.lt_of_le_of_lt (Nat.mod_le _ _) hx)]
theorem Juq {x : Nat} (hx : x < 2 ^ 32) : J4G .u32 (x : Int) 1 = ((x % 2 : Nat) : Int) := Jm1 hx 1 (by omega)
theorem JuL {x : Nat} (hx : x < 2 ^ 32) : J4G .u32 (x : Int) 15 = ((x % 16 : Nat) : Int) := Jm1 hx 4 (by omega)
theorem Jv0 (x : Nat) : J7V .u32 (x : Int) 1 = some ((x / 2 : Nat) : Int) := by
 show some ((x : Int).fdiv 2) = _
 rw [Int.fdiv_eq_ediv_of_nonneg _ (by omega)]; simp
theorem Jw1 (x : Nat) : J7V .u32 (x : Int) 4 = some ((x / 16 : Nat) : Int) := by
 show some ((x : Int).fdiv 16) = _
 rw [Int.fdiv_eq_ediv_of_nonneg _ (by omega)]; simp
def Jhl : List UInt8 → Nat → Nat
 | [], c => c
 | b :: r, c => Jhl r (gN 8 (c ^^^ b.toNat))
theorem Jax (b : UInt8) : b.toNat < 2 ^ 32 := by have := UInt8.toNat_lt b; omega
theorem Joc : ∀ {l : List UInt8} {c : Nat}, c < 2 ^ 32 → Jhl l c < 2 ^ 32
 | [], _, h => h
 | b :: r, _, h => Joc (l := r) (JfG (Nat.xor_lt_two_pow h (Jax b)))
def crc (l : List UInt8) : Nat := Jhl l 4294967295 ^^^ 4294967295
theorem Jix (l : List UInt8) : crc l < 2 ^ 32 := Nat.xor_lt_two_pow (Joc (by decide)) (by decide)
theorem Jmp {x : Nat} (hx : x < 2 ^ 32) : Jjy .u32 (x : Int) = ((x ^^^ 4294967295 : Nat) : Int) := by
 show IntKind.wrap .u32 (((BitVec.ofInt 32 4294967295 ^^^ BitVec.ofInt 32 (x : Int)).toNat : Nat) : Int) = _
 rw [BitVec.toNat_xor, Jjw hx, show (4294967295 : Int) = ((4294967295 : Nat) : Int) by rfl, Jjw (by decide), Nat.xor_comm, Jar _ (Nat.xor_lt_two_pow hx (by decide))]
theorem Joq (l : List UInt8) (hl : l.length ≤ 100000) : J6I l = some ((crc l : Nat) : Int) := by
 have inner : ∀ (x : Nat) (m k c : Nat), c < 2 ^ 32 → x < 200000 → k + m = 8 → Ju (fun s : Int × Int => J5j l (x : Int) s.1 s.2) ((c : Int), (k : Int)) = some (.inl (((gN m c : Nat) : Int), ((x + 1 : Nat) : Int))) := by
  intro x m
  induction m with
  | zero =>
   intro k c hc hx hk
   obtain rfl : k = 8 := by omega
   refine J2A ?_
   have e1 : ¬ (((8 : Nat) : Nat) : Int) < 8 := by omega
   simp only [J5j, e1, decide_false, Bool.false_eq_true, if_false, J9c, Option.map_some, J28 (show x < 1000000 by omega), gN]
  | succ m ih =>
   intro k c hc hx hk
   have e1 : ((k : Nat) : Int) < 8 := by omega
   refine (J3q (s' := (((gb c : Nat) : Int), ((k + 1 : Nat) : Int))) ?_).trans (ih (k + 1) (gb c) (JoX hc) hx (by omega))
   have e2 := Juq hc
   simp only [J5j, e1, decide_true, if_true, e2, Jv0, Option.bind_some, J7y, J28 (show k < 1000000 by omega)]
   unfold gb
   by_cases hb : c % 2 = 1
   ·simp only [hb, if_true, Int.natCast_one, beq_self_eq_true]
    rw [show (2197175160 : Int) = ((P32 : Nat) : Int) by rfl, Jbw (by omega) JlD]
   ·have e3 : (((c % 2 : Nat) : Int) == 1) = false := by simp; omega
    simp only [hb, if_false, e3, Bool.false_eq_true]
 have outer : ∀ (m j c : Nat), c < 2 ^ 32 → j + m = l.length → Ju (fun s : Int × Int => J5f l s.1 s.2) ((c : Int), (j : Int)) = some (((Jhl (l.drop j) c ^^^ 4294967295 : Nat) : Int)) := by
  intro m
  induction m with
  | zero =>
   intro j c hc hj
   obtain rfl : j = l.length := by omega
   refine J2A ?_
   have e1 : ¬ ((l.length : Nat) : Int) < ((l.length : Nat) : Int) := by omega
   simp only [J5f, e1, decide_false, Bool.false_eq_true, if_false, J9k, Option.map_some, Jmp hc, List.drop_length, Jhl]
  | succ m ih =>
   intro j c hc hj
   have hlt : j < l.length := by omega
   have e1 : ((j : Nat) : Int) < ((l.length : Nat) : Int) := by omega
   have hx := Nat.xor_lt_two_pow hc (Jax l[j])
   refine (J3q (s' := (((gN 8 (c ^^^ (l[j]).toNat) : Nat) : Int), ((j + 1 : Nat) : Int))) ?_).trans ((ih (j + 1) _ (JfG hx) (by omega)).trans ?_)
   ·simp only [J5f, e1, decide_true, if_true, J8D hlt, Option.bind_some]
    rw [Jar _ (Jax _), Jbw hc (Jax _)]
    exact inner j 8 0 _ hx (by omega) (by omega)
   ·rw [List.drop_eq_getElem_cons hlt]
    rfl
 exact outer l.length 0 4294967295 (by decide) (by omega)
theorem JiF : ∃ v, J2F = some v ∧ ∀ (i : Nat) (h : i < 16), v[i] = ((gN 4 i : Nat) : Int) := by
 have inner : ∀ (k : Nat) (b0 b1 : Vector Int 16), k < 16 → ∀ (m j c : Nat), c < 2 ^ 32 → j + m = 4 → Ju (fun s : Int × Int => J0u k k b0 b1 s.1 s.2) ((c : Int), (j : Int)) = some (.inl (((k + 1 : Nat) : Int), J7Z b1 k ((gN m c : Nat) : Int))) := by
  intro k b0 b1 hk m
  induction m with
  | zero =>
   intro j c hc hj
   obtain rfl : j = 4 := by omega
   refine J2A ?_
   have e1 : ¬ (((4 : Nat) : Nat) : Int) < 4 := by omega
   simp only [J0u, e1, decide_false, Bool.false_eq_true, if_false, J42, J3T, J7L hk, J43 _ k hk, Option.bind_some, Option.map_some, J28 (show k < 1000000 by omega), gN]
  | succ m ih =>
   intro j c hc hj
   have e1 : ((j : Nat) : Int) < 4 := by omega
   refine (J3q (s' := (((gb c : Nat) : Int), ((j + 1 : Nat) : Int))) ?_).trans (ih (j + 1) (gb c) (JoX hc) (by omega))
   have e2 := Juq hc
   simp only [J0u, e1, decide_true, if_true, e2, Jv0, Option.bind_some, J28 (show j < 1000000 by omega)]
   unfold gb
   by_cases hb : c % 2 = 1
   ·simp only [hb, if_true, Int.natCast_one, beq_self_eq_true]
    rw [show (2197175160 : Int) = ((P32 : Nat) : Int) by rfl, Jbw (by omega) JlD]
   ·have e3 : (((c % 2 : Nat) : Int) == 1) = false := by simp; omega
    simp only [hb, if_false, e3, Bool.false_eq_true]
 refine J0P (f := fun s : Int × Vector Int 16 => J0S (Vector.replicate 16 0) s.1 s.2) (fun s => ∃ j : Nat, s.1 = j ∧ j ≤ 16 ∧ ∀ (i : Nat) (h : i < 16), i < j → s.2[i] = ((gN 4 i : Nat) : Int)) (fun s => (16 - s.1).toNat) (fun v => ∀ (i : Nat) (h : i < 16), v[i] = ((gN 4 i : Nat) : Int)) (fun s ⟨j, hj, h4, hv⟩ => ?_) (0, Vector.replicate 16 0) ⟨0, rfl, by omega, fun i h hh => by omega⟩
 obtain ⟨j', b1⟩ := s
 simp only at hj hv
 subst hj
 by_cases hlt : j < 16
 ·left
  have e1 : ((j : Nat) : Int) < 16 := by omega
  have ho := inner j (Vector.replicate 16 0) b1 hlt 4 0 j (by omega) (by omega)
  refine ⟨⟨((j + 1 : Nat) : Int), J7Z b1 j ((gN 4 j : Nat) : Int)⟩, by simp only [J0S, e1, decide_true, if_true, Jar j (by omega)]; exact ho, ⟨j + 1, rfl, by omega, fun i h hh => ?_⟩, by simp; omega⟩
  simp only [J7Z, Int.toNat_natCast, Vector.getElem_setIfInBounds]
  by_cases hij : j = i
  ·subst hij; simp
  ·rw [if_neg hij]; exact hv i h (by omega)
 ·right
  obtain rfl : j = 16 := by omega
  have e1 : ¬ (((16 : Nat) : Nat) : Int) < 16 := by omega
  exact ⟨b1, by simp only [J0S, e1, decide_false, Bool.false_eq_true, if_false, J44, Option.map_some], fun i h => hv i h h⟩
theorem Jhs (l : List UInt8) (hl : l.length ≤ 100000) : J1G l = some ((crc l : Nat) : Int) := by
 obtain ⟨v, hv, ht⟩ := JiF
 have outer : ∀ (m j c : Nat), c < 2 ^ 32 → j + m = l.length → Ju (fun s : Int × Int => J1T l (l.length : Int) v s.1 s.2) ((c : Int), (j : Int)) = some (((Jhl (l.drop j) c ^^^ 4294967295 : Nat) : Int)) := by
  intro m
  induction m with
  | zero =>
   intro j c hc hj
   obtain rfl : j = l.length := by omega
   refine J2A ?_
   have e1 : ¬ ((l.length : Nat) : Int) < ((l.length : Nat) : Int) := by omega
   simp only [J1T, e1, decide_false, Bool.false_eq_true, if_false, J5W, Option.map_some, Jmp hc, List.drop_length, Jhl]
  | succ m ih =>
   intro j c hc hj
   have hlt : j < l.length := by omega
   have e1 : ((j : Nat) : Int) < ((l.length : Nat) : Int) := by omega
   have hx := Nat.xor_lt_two_pow hc (Jax l[j])
   have step : ∀ x : Nat, x < 2 ^ 32 → inb 16 (J4G .u32 (x : Int) 15) = some () ∧ J80 v (J4G .u32 (x : Int) 15) = some ((gN 4 (x % 16) : Nat) : Int) ∧ J5S .u32 ((x / 16 : Nat) : Int) ((gN 4 (x % 16) : Nat) : Int) = ((gN 4 x : Nat) : Int) := by
    intro x hx
    have h16 : x % 16 < 16 := by omega
    rw [JuL hx]
    refine ⟨J7L h16, by rw [J43 _ _ h16, ht _ h16], ?_⟩
    rw [Jbw (by omega) (JfG (by omega)), ← Jsc]
   refine (J3q (s' := (((gN 8 (c ^^^ (l[j]).toNat) : Nat) : Int), ((j + 1 : Nat) : Int))) ?_).trans ((ih (j + 1) _ (JfG hx) (by omega)).trans ?_)
   ·obtain ⟨a1, a2, a3⟩ := step _ hx
    obtain ⟨b1, b2, b3⟩ := step (gN 4 (c ^^^ (l[j]).toNat)) (JfG hx)
    simp only [J1T, e1, decide_true, if_true, J8D hlt, Option.bind_some, Jar _ (Jax l[j]), Jbw hc (Jax l[j]), Jw1, a1, a2, a3, b1, b2, b3, J28 (show j < 1000000 by omega)]
    rw [← Jqy 4 4]
   ·rw [List.drop_eq_getElem_cons hlt]
    rfl
 unfold J1G
 rw [hv]
 exact outer l.length 0 4294967295 (by decide) (by omega)
end Go.Am
end
section
namespace Go.Am
theorem Jnk (p : T_api_Page) (hc : ∀ (i : Nat) (h : i < 16), (p.Cells[i]).Data.length ≤ 12) (h0 : List UInt8) (hh : h0 = Jv p.LSN 8 ++ Jv p.ID 4) :
  ∃ r, J9P p.Cells p (0, ⟨h0⟩) = some r ∧ JoR p r := by
 refine J0P (f := fun s : Int × T_page_builder => J26 p.Cells p s.1 s.2) (fun s => ∃ (j : Nat) (t : List UInt8), s.1 = j ∧ j ≤ 16 ∧ s.2.s_ = Jv p.LSN 8 ++ Jv p.ID 4 ++ t ∧ t.length = 13 * j) (fun s => (16 - s.1).toNat)
  (JoR p) (fun s ⟨j, t, hj, h4, ht, hl⟩ => ?_) (0, ⟨h0⟩) ⟨0, [], rfl, by omega, by simp [hh], by simp⟩
 obtain ⟨j', b⟩ := s
 simp only at hj ht
 subst hj
 have hbl : b.s_.length = 12 + 13 * j := by rw [ht]; simp only [List.length_append, Jo, hl]
 by_cases hlt : j < 16
 ·left
  have e1 : ((j : Nat) : Int) < 16 := by omega
  obtain ⟨u, e2, hu⟩ := Jpa b p.Cells[j] (hc j hlt) (by omega)
  exact ⟨⟨((j + 1 : Nat) : Int), ⟨b.s_ ++ u⟩⟩, by simp only [J26, e1, decide_true, if_true, J43 _ j hlt, Option.bind_some, e2, J28 (show j < 1000000 by omega)], ⟨j + 1, t ++ u, rfl, by omega, by simp only [ht, List.append_assoc], by simp only [List.length_append, hl, hu]; omega⟩, by simp; omega⟩
 ·right
  obtain rfl : j = 16 := by omega
  have e1 : ¬ (((16 : Nat) : Nat) : Int) < 16 := by omega
  have a0 : IntKind.wrap .i64 (244 - ((b.s_.length : Nat) : Int)) = 24 := by rw [hbl, wrap64 (by omega) (by omega)]; omega
  have a1 := JbA (n := 24) (by omega) (by omega)
  have a2 : J46 b.s_ (List.replicate (24 : Int).toNat 0) = some (b.s_ ++ List.replicate (24 : Int).toNat 0) := Jd0 (by omega) (by simp)
  obtain ⟨r, a3⟩ := JmJ (b.s_ ++ List.replicate (24 : Int).toNat 0) (by simp [hbl])
  have a4 := J8X (b.s_ ++ List.replicate (24 : Int).toNat 0) (IntKind.wrap .i64 r) (k := 4) (by omega) (by omega) (by simp [hbl])
  have a5 := J8X (b.s_ ++ List.replicate (24 : Int).toNat 0 ++ Jv (IntKind.wrap .i64 r) 4) p.LSN (k := 8) (by omega) (by omega) (by simp [hbl, Jo])
  refine ⟨(b.s_ ++ List.replicate (24 : Int).toNat 0 ++ Jv (IntKind.wrap .i64 r) 4 ++ Jv p.LSN 8, 0), ?_, ?_⟩
  ·simp only [J26, e1, decide_false, Bool.false_eq_true, if_false, J6n, a0, a1, a2, a3, Option.bind_some]
   rw [show (4 : Int) = ((4 : Nat) : Int) by rfl, a4, Option.bind_some, show (8 : Int) = ((8 : Nat) : Int) by rfl, a5]
   rfl
  ·refine ⟨rfl, by simp [hbl, Jo], ?_, ?_, ?_⟩
   ·rw [ht]
    simp only [List.append_assoc]
    rw [List.take_append_of_le_length (by rw [Jo]; omega), List.take_of_length_le (by rw [Jo]; omega)]
   ·rw [List.drop_append, List.drop_of_length_le (by simp [hbl, Jo]), List.nil_append]
    simp [hbl, Jo]
   ·rw [ht]
    simp only [List.append_assoc]
    rw [List.drop_append, List.drop_of_length_le (by rw [Jo]; omega), List.nil_append, Jo, Nat.sub_self, List.drop_zero, List.take_append_of_le_length (by rw [Jo]; omega), List.take_of_length_le (by rw [Jo]; omega)]
theorem Jib (p : T_api_Page) : ∃ r, J0M p = some r ∧ (J3N p → JoR p r) := by
 have hp : ∃ b, J1A p = some b ∧ (J3N p → b = true) := by
  unfold J1A J16
  by_cases h1 : p.ID ≥ 0
  ·by_cases h2 : p.ID < 64
   ·by_cases h3 : p.LSN ≥ 0
    ·exact ⟨decide (p.LSN ≤ 1099511627776), by simp [h1, h2, h3], fun h => by simpa using h.lsn1⟩
    ·exact ⟨false, by simp [h1, h2, h3], fun h => (h3 h.lsn0).elim⟩
   ·exact ⟨false, by simp [h1, h2], fun h => (h2 h.id1).elim⟩
  ·exact ⟨false, by simp [h1], fun h => (h1 h.id0).elim⟩
 obtain ⟨b, e1, hb⟩ := hp
 obtain ⟨d, e2, hd, hd2⟩ := Jkj p
 unfold J0M
 simp only [e1, e2, Option.bind_some]
 cases b with
 | false => exact ⟨_, rfl, fun h => by cases hb h⟩
 | true =>
  cases d with
  | false => exact ⟨_, rfl, fun h => by cases hd2 h.cells⟩
  | true =>
   have a1 := J8X [] p.LSN (k := 8) (by omega) (by omega) (by simp)
   have a2 := J8X ([] ++ Jv p.LSN 8) p.ID (k := 4) (by omega) (by omega) (by simp [Jo])
   obtain ⟨r, hr, hq⟩ := Jnk p (hd rfl) ([] ++ Jv p.LSN 8 ++ Jv p.ID 4) (by simp)
   refine ⟨r, ?_, fun _ => hq⟩
   simp only [if_true]
   rw [show (8 : Int) = ((8 : Nat) : Int) by rfl, a1, Option.bind_some, show (4 : Int) = ((4 : Nat) : Int) by rfl, a2, Option.bind_some]
   exact hr
theorem JsS (s : List UInt8) (hs : s.length ≤ 1000) {at_ k : Nat} (h1 : 1 ≤ k) (h8 : k ≤ 8) (ha : at_ ≤ 1000) : ∃ r, J0g s at_ k = some r := by
 have c1 : ¬ ((k : Int) < 1) := by omega
 have c2 : ¬ ((k : Int) > 8) := by omega
 have c3 : ¬ ((at_ : Int) < 0) := by omega
 unfold J0g
 simp only [c1, c2, c3, decide_false, Bool.false_eq_true, if_false]
 by_cases c4 : (at_ : Int) > (s.length : Int)
 ·exact ⟨(0, 5), by simp only [c4, decide_true, if_true]⟩
 ·have e0 : IntKind.wrap .i64 ((s.length : Int) - at_) = (s.length : Int) - at_ := wrap64 (by omega) (by omega)
  simp only [c4, decide_false, Bool.false_eq_true, if_false, e0]
  by_cases c5 : (s.length : Int) - at_ < k
  ·exact ⟨(0, 5), by simp only [c5, decide_true, if_true]⟩
  ·simp only [c5, decide_false, Bool.false_eq_true, if_false]
   obtain ⟨r, hr, _⟩ := J0P (f := fun q : Int × Int => J0h s at_ k q.1 q.2) (fun q => ∃ j : Nat, q.2 = j ∧ j ≤ k) (fun q => (k - q.2).toNat) (fun _ => True) (fun q ⟨j, hj, h4⟩ => by
    obtain ⟨x, j'⟩ := q
    simp only at hj
    subst hj
    by_cases hlt : j < k
    ·left
     have e1 : ((j : Nat) : Int) < (k : Int) := by omega
     have e2 : IntKind.wrap .i64 ((at_ : Int) + (j : Int)) = ((at_ + j : Nat) : Int) := by rw [wrap64 (by omega) (by omega)]; omega
     have e3 : IntKind.wrap .i64 (8 * (j : Int)) = ((8 * j : Nat) : Int) := by rw [wrap64 (by omega) (by omega)]; omega
     have e4 : ∀ z : Int, ∃ y, JcF .u64 z ((8 * j : Nat) : Int) = some y := fun z => ⟨_, if_neg (by omega)⟩
     obtain ⟨y, e5⟩ := e4 (IntKind.wrap .u64 (((s[at_ + j]).toNat : Nat) : Int))
     exact ⟨⟨_, ((j + 1 : Nat) : Int)⟩, by simp only [J0h, e1, decide_true, if_true, e2, J8D (show at_ + j < s.length by omega), Option.bind_some, e3, e5, J28 (show j < 1000000 by omega)]; rfl, ⟨j + 1, rfl, by omega⟩, by simp; omega⟩
    ·right
     have e1 : ¬ ((j : Nat) : Int) < (k : Int) := by omega
     exact ⟨_, by simp only [J0h, e1, decide_false, Bool.false_eq_true, if_false, J5a, Option.map_some]; rfl, trivial⟩) (0, 0) ⟨0, rfl, by omega⟩
   exact ⟨r, hr⟩
theorem Jdx (s : List UInt8) (hs : s.length ≤ 1000) {at_ : Nat} (ha : at_ < s.length) : J0g s at_ 1 = some (((s[at_]).toNat : Int), 0) := by
 have c3 : ¬ ((at_ : Int) < 0) := by omega
 have c4 : ¬ ((at_ : Int) > (s.length : Int)) := by omega
 have e0 : IntKind.wrap .i64 ((s.length : Int) - at_) = (s.length : Int) - at_ := wrap64 (by omega) (by omega)
 have c5 : ¬ ((s.length : Int) - at_ < 1) := by omega
 unfold J0g
 simp only [show ¬ ((1 : Int) < 1) by omega, show ¬ ((1 : Int) > 8) by omega, c3, c4, e0, c5, decide_false, Bool.false_eq_true, if_false]
 have hu : (s[at_]).toNat < 256 := UInt8.toNat_lt _
 have w0 : IntKind.wrap .u64 (((s[at_]).toNat : Nat) : Int) = (((s[at_]).toNat : Nat) : Int) := J7H (by omega) (by omega)
 have e2 : IntKind.wrap .i64 ((at_ : Int) + 0) = (at_ : Int) := by rw [wrap64 (by omega) (by omega)]; omega
 have e3 : JcF .u64 (((s[at_]).toNat : Nat) : Int) (IntKind.wrap .i64 (8 * 0)) = some (((s[at_]).toNat : Nat) : Int) := by
  rw [show IntKind.wrap .i64 (8 * 0) = 0 by rfl]
  show some (IntKind.wrap .u64 ((((s[at_]).toNat : Nat) : Int) * 2 ^ 0)) = _
  rw [show ((((s[at_]).toNat : Nat) : Int) * 2 ^ 0) = (((s[at_]).toNat : Nat) : Int) by omega, w0]
 have e4 : orI .u64 0 (((s[at_]).toNat : Nat) : Int) = (((s[at_]).toNat : Nat) : Int) := by
  have h2 : (BitVec.ofInt 64 0 ||| BitVec.ofInt 64 (((s[at_]).toNat : Nat) : Int)).toNat = (s[at_]).toNat := by
   rw [show BitVec.ofInt 64 0 = 0#64 by rfl, BitVec.zero_or, BitVec.toNat_ofInt]
   omega
  show IntKind.wrap .u64 (((BitVec.ofInt 64 0 ||| BitVec.ofInt 64 (((s[at_]).toNat : Nat) : Int)).toNat : Nat) : Int) = _
  rw [h2, w0]
 have s0 : J0h s at_ 1 0 0 = some (.inl ((((s[at_]).toNat : Nat) : Int), 1)) := by
  simp only [J0h, show ((0 : Int) < 1) by omega, decide_true, if_true, e2, J8D ha, Option.bind_some, w0, e3, e4, show IntKind.wrap .i64 ((0 : Int) + 1) = 1 by rfl]
 have s1 : J0h s at_ 1 (((s[at_]).toNat : Nat) : Int) 1 = some (.inr ((((s[at_]).toNat : Nat) : Int), 0)) := by
  simp only [J0h, show ¬ ((1 : Int) < 1) by omega, decide_false, Bool.false_eq_true, if_false, J5a, Option.map_some, wrap64 (show -9223372036854775808 ≤ (((s[at_]).toNat : Nat) : Int) by omega) (by omega)]
 exact (J3q (f := fun q : Int × Int => J0h s at_ 1 q.1 q.2) (s := (0, 0)) s0).trans (J2A s1)
theorem J9K (s : List UInt8) (hs : s.length ≤ 1000) {at_ k : Nat} (h1 : 1 ≤ k) (h8 : k ≤ 8) (ha : at_ ≤ 1000) : ∃ r, JC s at_ k = some r := by
 obtain ⟨r, hr⟩ := JsS s hs h1 h8 ha
 exact ⟨r.1, by simp [JC, hr]⟩
theorem Jq9 {α : Type} (l : List α) {a b : Nat} (h1 : a ≤ b) (h2 : b ≤ l.length) : J2H l (some (a : Int)) (some (b : Int)) = some ((l.drop a).take (b - a)) := by
 have e1 : (0 : Int) ≤ b ∧ (b : Int) ≤ l.length := by omega
 have e2 : (0 : Int) ≤ a ∧ (a : Int) ≤ b := by omega
 simp only [J2H, Jf2, Jcx, e1, e2, and_self, if_true, Int.toNat_natCast]
theorem JcW {α : Type} (l : List α) {b : Nat} (h2 : b ≤ l.length) : J2H l none (some (b : Int)) = some (l.take b) := by
 have e1 : (0 : Int) ≤ b ∧ (b : Int) ≤ l.length := by omega
 simp only [J2H, Jf2, Jcx, e1, and_self, if_true, Int.toNat_natCast, List.drop_zero, Nat.sub_zero]
theorem Jh0 {α : Type} (l : List α) {a : Nat} (h2 : a ≤ l.length) : J2H l (some (a : Int)) none = some (l.drop a) := by
 have e1 : (0 : Int) ≤ a ∧ (a : Int) ≤ l.length := by omega
 simp only [J2H, Jf2, Jcx, e1, and_self, if_true, Int.toNat_natCast]
 rw [List.take_of_length_le (by simp)]
theorem JlV (s : List UInt8) (hs : s.length = 256) : ∃ r, J3g s = some r := by
 obtain ⟨r1, a1⟩ := J9K s (by omega) (at_ := 8) (k := 4) (by omega) (by omega) (by omega)
 obtain ⟨r2, a2⟩ := J9K s (by omega) (at_ := 0) (k := 8) (by omega) (by omega) (by omega)
 have a1' : JC s 8 4 = some r1 := a1
 have a2' : JC s 0 8 = some r2 := a2
 unfold J3g
 simp only [a1', a2', Option.bind_some]
 obtain ⟨r, hr, _⟩ := J0P (f := fun q : Int × T_api_Page => J0o s ⟨0, 0, Vector.replicate 16 ⟨false, []⟩⟩ q.1 q.2) (fun q => ∃ j : Nat, q.1 = j ∧ j ≤ 16) (fun q => (16 - q.1).toNat) (fun _ => True) (fun q ⟨j, hj, h4⟩ => by
  obtain ⟨j', p⟩ := q
  simp only at hj
  subst hj
  by_cases hlt : j < 16
  ·have e1 : ((j : Nat) : Int) < 16 := by omega
   have e2 : IntKind.wrap .i64 (12 + IntKind.wrap .i64 ((j : Int) * 13)) = ((12 + 13 * j : Nat) : Int) := by
    rw [wrap64 (n := (j : Int) * 13) (by omega) (by omega), wrap64 (by omega) (by omega)]; omega
   have hu : (s[12 + 13 * j]'(by omega)).toNat < 256 := UInt8.toNat_lt _
   have e3 : JC s ((12 + 13 * j : Nat) : Int) 1 = some (((s[12 + 13 * j]'(by omega)).toNat : Nat) : Int) := by
    simp only [JC, Jdx s (by omega) (show 12 + 13 * j < s.length by omega), Option.bind_some]
   generalize hv : (s[12 + 13 * j]'(by omega)).toNat = v at e3 hu
   by_cases h255 : v = 255
   ·left
    subst h255
    exact ⟨⟨((j + 1 : Nat) : Int), p⟩, by simp only [J0o, e1, decide_true, if_true, e2, e3, Option.bind_some, J28 (show j < 1000000 by omega)]; rfl, ⟨j + 1, rfl, by omega⟩, by simp; omega⟩
   ·have e4 : (((v : Nat) : Int) == 255) = false := by simp; omega
    by_cases h12 : ((v : Nat) : Int) > 12
    ·right
     exact ⟨_, by simp only [J0o, e1, decide_true, if_true, e2, e3, Option.bind_some, e4, Bool.false_eq_true, if_false, h12]; rfl, trivial⟩
    ·left
     have e5 : IntKind.wrap .i64 (((12 + 13 * j : Nat) : Int) + 1) = ((13 + 13 * j : Nat) : Int) := by rw [wrap64 (by omega) (by omega)]; omega
     have e6 : IntKind.wrap .i64 (((13 + 13 * j : Nat) : Int) + ((v : Nat) : Int)) = ((13 + 13 * j + v : Nat) : Int) := by rw [wrap64 (by omega) (by omega)]; omega
     have e7 := Jq9 s (a := 13 + 13 * j) (b := 13 + 13 * j + v) (by omega) (by omega)
     exact ⟨⟨((j + 1 : Nat) : Int), _⟩, by simp only [J0o, e1, decide_true, if_true, e2, e3, Option.bind_some, e4, Bool.false_eq_true, if_false, h12, decide_false, e5, e6, e7, J7L hlt, J43 _ j hlt, J28 (show j < 1000000 by omega)]; rfl, ⟨j + 1, rfl, by omega⟩, by simp; omega⟩
  ·right
   have e1 : ¬ ((j : Nat) : Int) < 16 := by omega
   exact ⟨_, by simp only [J0o, e1, decide_false, Bool.false_eq_true, if_false, J57, Option.map_some]; rfl, trivial⟩) (0, ⟨r1, r2, Vector.replicate 16 ⟨false, []⟩⟩) ⟨0, rfl, by omega⟩
 exact ⟨r, hr⟩
end Go.Am
end
section
namespace Go.Am
def blk : List UInt8 := List.replicate 256 0
theorem JsP : blk.length = 256 := by decide +kernel
theorem Jlv : blk.take 8 = Jv 0 8 := by decide +kernel
theorem JrX : blk.drop 248 = Jv 0 8 := by decide +kernel
theorem Jcz : J5I = some blk := by
 unfold J5I
 rw [JbA (n := 256) (by omega) (by omega)]
 rfl
theorem Jp1 (x : List UInt8) (hx : x.length = 256) : ∃ r, J0L x = some r ∧ (r.2 = 0 ∨ r.2 = 7 → x.take 8 = x.drop 248) := by
 unfold J0L
 have e0 : (((x.length : Nat) : Int) != 256) = false := by rw [hx]; rfl
 have e1 : J2H x none (some 8) = some (x.take 8) := JcW x (b := 8) (by omega)
 have e2 : J2H x (some 248) none = some (x.drop 248) := Jh0 x (a := 248) (by omega)
 have e3 : J2H x none (some 244) = some (x.take 244) := JcW x (b := 244) (by omega)
 obtain ⟨n, e4⟩ := J9K x (by omega) (at_ := 244) (k := 4) (by omega) (by omega) (by omega)
 have e4' : JC x 244 4 = some n := e4
 obtain ⟨c, e5⟩ := JmJ (x.take 244) (by simp; omega)
 obtain ⟨p, e6⟩ := JlV x hx
 obtain ⟨q, e7, _⟩ := Jib p.1
 simp only [e0, Bool.false_eq_true, if_false, Jcz, Option.bind_some]
 by_cases hb : x = blk
 ·refine ⟨_, by rw [if_pos (by simpa using hb)], fun _ => ?_⟩
  rw [hb, Jlv, JrX]
 ·have hb' : (x == blk) = false := by simpa using hb
  simp only [hb', Bool.false_eq_true, if_false, e1, e2, Option.bind_some]
  by_cases hp : x.take 8 = x.drop 248
  ·have hp' : (x.take 8 == x.drop 248) = true := by simpa using hp
   simp only [hp', if_true, e4', e3, e5, e6, e7, Option.bind_some]
   split
   ·exact ⟨_, rfl, fun _ => hp⟩
   ·split
    ·split
     ·exact ⟨_, rfl, fun _ => hp⟩
     ·split
      ·exact ⟨_, rfl, fun _ => hp⟩
      ·exact ⟨_, rfl, fun _ => hp⟩
    ·exact ⟨_, rfl, fun _ => hp⟩
  ·have hp' : (x.take 8 == x.drop 248) = false := by simpa using hp
   simp only [hp', Bool.false_eq_true, if_false]
   exact ⟨_, rfl, fun h => by rcases h with h | h <;> cases h⟩
end Go.Am
end
section
namespace Go.Am
theorem Jqx {x b j : Nat} (hj : j ≤ 7) (hx : x < 2 ^ (8 * j)) (hb : b < 256) :
  orI .u64 (x : Int) (IntKind.wrap .u64 (((b : Nat) : Int) * 2 ^ (8 * j))) = ((x + b * 2 ^ (8 * j) : Nat) : Int) := by
 have p1 : (2 : Nat) ^ (8 * j) * 256 ≤ 2 ^ 64 := by
  rw [show (256 : Nat) = 2 ^ 8 by rfl, ← Nat.pow_add]
  exact Nat.pow_le_pow_right (by omega) (by omega)
 have p2 : b * 2 ^ (8 * j) + 2 ^ (8 * j) ≤ 2 ^ 64 := by
  have : (b + 1) * 2 ^ (8 * j) ≤ 256 * 2 ^ (8 * j) := Nat.mul_le_mul_right _ (by omega)
  rw [Nat.add_mul, Nat.one_mul] at this
  omega
 have w : IntKind.wrap .u64 (((b : Nat) : Int) * 2 ^ (8 * j)) = ((b * 2 ^ (8 * j) : Nat) : Int) := by
  have e : (((b : Nat) : Int) * 2 ^ (8 * j)) = ((b * 2 ^ (8 * j) : Nat) : Int) := by simp
  rw [e, J7H (by omega) (by omega)]
 rw [w]
 have e1 : ∀ y : Nat, y < 2 ^ 64 → (BitVec.ofInt 64 (y : Int)).toNat = y := by
  intro y hy
  rw [BitVec.toNat_ofInt]
  omega
 show IntKind.wrap .u64 (((BitVec.ofInt 64 (x : Int) ||| BitVec.ofInt 64 ((b * 2 ^ (8 * j) : Nat) : Int)).toNat : Nat) : Int) = _
 rw [BitVec.toNat_or, e1 x (by omega), e1 _ (by omega)]
 have e2 : x ||| b * 2 ^ (8 * j) = x + b * 2 ^ (8 * j) := by
  rw [Nat.or_comm, Nat.mul_comm b, ← Nat.two_pow_add_eq_or_of_lt hx, Nat.add_comm]
 rw [e2, J7H (by omega) (by omega)]
theorem Jif {n i : Nat} (hn : n < 2 ^ 64) : J3V (n : Int) i = ((n / 2 ^ (8 * i) % 256 : Nat) : Int) := by
 show ((IntKind.wrap .u64 (n : Int)).fdiv (2 ^ (8 * i))) % 256 = _
 rw [Int.fdiv_eq_ediv_of_nonneg _ (Int.le_of_lt (Int.pow_pos (by decide))), J7H (by omega) (by omega)]
 simp
theorem Jhr {n : Int} {k i : Nat} (h : i < k) : (Jv n k)[i]? = some (UInt8.ofNat (J3V n i).toNat) := by
 simp [Jv, toStr, h]
theorem JiZ (pre post : List UInt8) {n k : Nat} (h1 : 1 ≤ k) (h8 : k ≤ 8) (hn : n < 2 ^ (8 * k)) (hn2 : n < 2 ^ 63) (hl : (pre ++ (Jv n k ++ post)).length ≤ 1000000) :
  J0g (pre ++ (Jv n k ++ post)) (pre.length : Int) (k : Int) = some ((n : Int), 0) := by
 generalize hs : pre ++ (Jv n k ++ post) = s at hl
 have hlen : pre.length + k ≤ s.length := by rw [← hs]; simp [Jo]
 have c1 : ¬ ((k : Int) < 1) := by omega
 have c2 : ¬ ((k : Int) > 8) := by omega
 have c3 : ¬ ((pre.length : Int) < 0) := by omega
 have c4 : ¬ ((pre.length : Int) > (s.length : Int)) := by omega
 have e0 : IntKind.wrap .i64 ((s.length : Int) - pre.length) = (s.length : Int) - pre.length := wrap64 (by omega) (by omega)
 have c5 : ¬ ((s.length : Int) - pre.length < k) := by omega
 unfold J0g
 simp only [c1, c2, c3, c4, c5, e0, decide_false, Bool.false_eq_true, if_false]
 have key : ∀ (m j : Nat), j + m = k → Ju (fun q : Int × Int => J0h s pre.length k q.1 q.2) (((n % 2 ^ (8 * j) : Nat) : Int), (j : Int)) = some ((n : Int), 0) := by
  intro m
  induction m with
  | zero =>
   intro j hj
   obtain rfl : j = k := by omega
   have e1 : ¬ ((j : Nat) : Int) < (j : Int) := by omega
   refine J2A ?_
   simp only [J0h, e1, decide_false, Bool.false_eq_true, if_false, J5a, Option.map_some, Nat.mod_eq_of_lt hn]
   rw [wrap64 (by omega) (by omega)]
  | succ m ih =>
   intro j hj
   have e1 : ((j : Nat) : Int) < (k : Int) := by omega
   have e2 : IntKind.wrap .i64 ((pre.length : Int) + (j : Int)) = ((pre.length + j : Nat) : Int) := by rw [wrap64 (by omega) (by omega)]; omega
   have e3 : IntKind.wrap .i64 (8 * (j : Int)) = ((8 * j : Nat) : Int) := by rw [wrap64 (by omega) (by omega)]; omega
   have hb : (s[pre.length + j]'(by omega)).toNat = n / 2 ^ (8 * j) % 256 := by
    have h5 : s[pre.length + j]? = some (UInt8.ofNat (J3V (n : Int) j).toNat) := by
     rw [← hs, List.getElem?_append_right (by omega), Nat.add_sub_cancel_left, List.getElem?_append_left (by rw [Jo]; omega), Jhr (by omega)]
    rw [List.getElem?_eq_getElem (by omega)] at h5
    injection h5 with h5
    have h6 := Jbh (n : Int) j
    rw [← h5, Jif (by omega)] at h6
    omega
   have hb2 : n / 2 ^ (8 * j) % 256 < 256 := Nat.mod_lt _ (by omega)
   have e4 : JcF .u64 (IntKind.wrap .u64 (((s[pre.length + j]'(by omega)).toNat : Nat) : Int)) ((8 * j : Nat) : Int) = some (IntKind.wrap .u64 (((n / 2 ^ (8 * j) % 256 : Nat) : Int) * 2 ^ (8 * j))) := by
    rw [hb, J7H (by omega) (by omega)]
    simp only [JcF]
    rw [if_neg (by omega)]
    have : min (((8 * j : Nat) : Int)).toNat IntKind.u64.bits = 8 * j := by
     simp only [Int.toNat_natCast]
     exact Nat.min_eq_left (by show 8 * j ≤ 64; omega)
    rw [this]
   have e5 := Jqx (x := n % 2 ^ (8 * j)) (b := n / 2 ^ (8 * j) % 256) (j := j) (by omega) (Nat.mod_lt _ (Nat.two_pow_pos _)) hb2
   have e6 : n % 2 ^ (8 * j) + n / 2 ^ (8 * j) % 256 * 2 ^ (8 * j) = n % 2 ^ (8 * (j + 1)) := by
    rw [Nat.mul_add, Nat.pow_add, Nat.mod_mul, Nat.mul_comm (n / 2 ^ (8 * j) % 256)]
   rw [e6] at e5
   refine (J3q (s' := (((n % 2 ^ (8 * (j + 1)) : Nat) : Int), ((j + 1 : Nat) : Int))) ?_).trans (ih (j + 1) (by omega))
   simp only [J0h, e1, decide_true, if_true, e2, J8D (show pre.length + j < s.length by omega), Option.bind_some, e3, e4, e5, J28 (show j < 1000000 by omega)]
 have h0 := key k 0 (by omega)
 simp only [Nat.mul_zero, Nat.pow_zero, Nat.mod_one] at h0
 exact h0
end Go.Am
end
section
namespace Go.Am
def J84 (c : Jc) : List UInt8 := Jv (if c.Set then (c.Data.length : Int) else 255) 1 ++ c.Data ++ List.replicate (12 - c.Data.length) 0
theorem JpV {c : Jc} (h : c.Data.length ≤ 12) : (J84 c).length = 13 := by
 simp only [J84, List.length_append, Jo, List.length_replicate]; omega
theorem JpJ (b : T_page_builder) (c : Jc) (hc : c.Data.length ≤ 12) (hb : b.s_.length ≤ 300) : J1P b c = some ⟨b.s_ ++ J84 c⟩ := by
 have go : ∀ x : Int, J1p x b c = some ⟨b.s_ ++ (Jv x 1 ++ c.Data ++ List.replicate (12 - c.Data.length) 0)⟩ := by
  intro x
  have e0 : IntKind.wrap .i64 (12 - ((c.Data.length : Nat) : Int)) = ((12 - c.Data.length : Nat) : Int) := by rw [wrap64 (by omega) (by omega)]; omega
  have e1 := J8X b.s_ x (k := 1) (by omega) (by omega) (by omega)
  have e2 : J46 (b.s_ ++ Jv x 1) c.Data = some (b.s_ ++ Jv x 1 ++ c.Data) := Jd0 (by rw [List.length_append, Jo]; omega) (by omega)
  have e3 := JbA (n := ((12 - c.Data.length : Nat) : Int)) (by omega) (by omega)
  rw [Int.toNat_natCast] at e3
  have e4 : J46 (b.s_ ++ Jv x 1 ++ c.Data) (List.replicate (12 - c.Data.length) 0) = some (b.s_ ++ Jv x 1 ++ c.Data ++ List.replicate (12 - c.Data.length) 0) := Jd0 (by simp only [List.length_append, Jo]; omega) (by simp; omega)
  unfold J1p
  rw [show (1 : Int) = ((1 : Nat) : Int) by rfl, e1, Option.bind_some, e2, Option.bind_some, e0, e3, Option.bind_some, e4, Option.bind_some]
  simp only [List.append_assoc]
 unfold J1P J84
 cases hs : c.Set with
 | true => simp only [if_true]; exact go _
 | false => simp only [Bool.false_eq_true, if_false]; exact go _
theorem JoS (x : Int) : 0 ≤ Jjy .u32 x ∧ Jjy .u32 x < 4294967296 := by
 have h : ∀ y : Int, 0 ≤ IntKind.wrap .u32 y ∧ IntKind.wrap .u32 y < 4294967296 := by
  intro y
  have e : IntKind.wrap .u32 y = y % 4294967296 := rfl
  rw [e]; omega
 exact h _
theorem JpI {l : List UInt8} {r : Int} (h : J1G l = some r) : 0 ≤ r ∧ r < 4294967296 := by
 unfold J1G at h
 obtain ⟨v, _, h⟩ := Option.bind_eq_some_iff.1 h
 have h0 : Ju (fun s : Int × Int => J1T l (l.length : Int) v s.1 s.2) (4294967295, 0) = some r := h
 refine J0m (P := fun (_ : Int × Int) (o : Int) => 0 ≤ o ∧ o < 4294967296) (fun s o hs => ?_) (fun s s1 o hs ih => ih) h0
 unfold J1T at hs
 split at hs
 ·simp only [Option.bind_eq_some_iff, Option.some.injEq] at hs
  obtain ⟨_, _, _, _, _, _, _, _, _, _, _, _, _, _, hs⟩ := hs
  cases hs
 ·obtain ⟨z, hz, e⟩ := Option.map_eq_some_iff.1 hs
  injection e with e
  subst e
  unfold J5W at hz
  injection hz with hz
  rw [← hz]
  exact JoS _
end Go.Am
end
section
namespace Go.Am
def J1M (l : List Jc) : List UInt8 := (l.map J84).flatten
theorem Ja1 : ∀ {l : List Jc}, (∀ c ∈ l, c.Data.length ≤ 12) → (J1M l).length = 13 * l.length
 | [], _ => rfl
 | c :: l, h => by
  have h1 := JpV (h c (by simp))
  have h2 := Ja1 (l := l) fun d hd => h d (by simp [hd])
  simp only [J1M, List.map_cons, List.flatten_cons, List.length_append, List.length_cons] at h2 ⊢
  omega
theorem Jgy (l : List Jc) (c : Jc) : J1M (l ++ [c]) = J1M l ++ J84 c := by simp [J1M]
def J0f (p : T_api_Page) : List UInt8 := Jv p.LSN 8 ++ Jv p.ID 4 ++ J1M p.Cells.toList ++ List.replicate 24 0
theorem Jgu {p : T_api_Page} (hp : J3N p) : ∃ c, J1G (J0f p) = some c ∧ J0M p = some (J0f p ++ Jv (IntKind.wrap .i64 c) 4 ++ Jv p.LSN 8, 0) := by
 have hd : ∀ c ∈ p.Cells.toList, c.Data.length ≤ 12 := by
  intro c hc
  obtain ⟨i, hi, rfl⟩ := List.getElem_of_mem hc
  have h16 : i < 16 := by simpa using hi
  have := (hp.cells i h16).1
  simpa using this
 have loop := J0P (f := fun s : Int × T_page_builder => J26 p.Cells p s.1 s.2) (fun s => ∃ j : Nat, s.1 = j ∧ j ≤ 16 ∧ s.2.s_ = Jv p.LSN 8 ++ Jv p.ID 4 ++ J1M (p.Cells.toList.take j)) (fun s => (16 - s.1).toNat)
  (fun r => ∃ c, J1G (J0f p) = some c ∧ r = (J0f p ++ Jv (IntKind.wrap .i64 c) 4 ++ Jv p.LSN 8, 0)) (fun s ⟨j, hj, h4, ht⟩ => by
  obtain ⟨j', b⟩ := s
  simp only at hj ht
  subst hj
  have hl : (J1M (p.Cells.toList.take j)).length = 13 * j := by
   rw [Ja1 fun c hc => hd c (List.mem_of_mem_take hc)]
   simp; omega
  have hbl : b.s_.length = 12 + 13 * j := by rw [ht]; simp only [List.length_append, Jo, hl]
  by_cases hlt : j < 16
  ·left
   have e1 : ((j : Nat) : Int) < 16 := by omega
   have e2 := JpJ b p.Cells[j] (hp.cells j hlt).1 (by omega)
   have e3 : p.Cells.toList.take (j + 1) = p.Cells.toList.take j ++ [p.Cells[j]] := by
    rw [List.take_add_one, List.getElem?_eq_getElem (by simpa using hlt)]
    simp
   exact ⟨⟨((j + 1 : Nat) : Int), ⟨b.s_ ++ J84 p.Cells[j]⟩⟩, by simp only [J26, e1, decide_true, if_true, J43 _ j hlt, Option.bind_some, e2, J28 (show j < 1000000 by omega)], ⟨j + 1, rfl, by omega, by show b.s_ ++ _ = _; rw [ht, e3, Jgy]; simp only [List.append_assoc]⟩, by simp; omega⟩
  ·right
   obtain rfl : j = 16 := by omega
   have e1 : ¬ (((16 : Nat) : Nat) : Int) < 16 := by omega
   have e5 : p.Cells.toList.take 16 = p.Cells.toList := List.take_of_length_le (by simp)
   rw [e5] at ht
   have a0 : IntKind.wrap .i64 (244 - ((b.s_.length : Nat) : Int)) = 24 := by rw [hbl, wrap64 (by omega) (by omega)]; omega
   have a1 : J3A [0] 24 = some (List.replicate 24 0) := JbA (n := 24) (by omega) (by omega)
   have a6 : b.s_ ++ List.replicate 24 0 = J0f p := by rw [ht]; rfl
   have a7 : (J0f p).length = 244 := by rw [← a6]; simp [hbl]
   have a2 : J46 b.s_ (List.replicate 24 0) = some (J0f p) := by rw [← a6]; exact Jd0 (by omega) (by simp)
   obtain ⟨r, a3⟩ := JmJ (J0f p) (by omega)
   have a4 := J8X (J0f p) (IntKind.wrap .i64 r) (k := 4) (by omega) (by omega) (by omega)
   have a5 := J8X (J0f p ++ Jv (IntKind.wrap .i64 r) 4) p.LSN (k := 8) (by omega) (by omega) (by simp [a7, Jo])
   refine ⟨_, ?_, r, a3, rfl⟩
   simp only [J26, e1, decide_false, Bool.false_eq_true, if_false, J6n, a0, a1, a2, a3, Option.bind_some]
   rw [show (4 : Int) = ((4 : Nat) : Int) by rfl, a4, Option.bind_some, show (8 : Int) = ((8 : Nat) : Int) by rfl, a5]
   rfl) (0, ⟨Jv p.LSN 8 ++ Jv p.ID 4⟩) ⟨0, rfl, by omega, by simp [J1M]⟩
 obtain ⟨r, hr, c, hc, rfl⟩ := loop
 refine ⟨c, hc, ?_⟩
 obtain ⟨d, e2, _, hd2⟩ := Jkj p
 have hd3 := hd2 hp.cells
 subst hd3
 have e1 : J1A p = some true := by
  have i0 := hp.id0; have i1 := hp.id1; have l0 := hp.lsn0; have l1 := hp.lsn1
  simp [J1A, J16, i0, i1, l0, l1]
 have a1 := J8X [] p.LSN (k := 8) (by omega) (by omega) (by simp)
 have a2 := J8X ([] ++ Jv p.LSN 8) p.ID (k := 4) (by omega) (by omega) (by simp [Jo])
 unfold J0M
 simp only [e1, e2, Option.bind_some, if_true]
 rw [show (8 : Int) = ((8 : Nat) : Int) by rfl, a1, Option.bind_some, show (4 : Int) = ((4 : Nat) : Int) by rfl, a2, Option.bind_some, List.nil_append]
 exact hr
end Go.Am
end
section
namespace Go.Am
theorem JsF {α : Type} {A D R : List α} {a b : Nat} (ha : a = A.length) (hb : b = A.length + D.length) : J2H (A ++ (D ++ R)) (some (a : Int)) (some (b : Int)) = some D := by
 rw [Jq9 _ (by omega) (by rw [hb]; simp)]
 rw [ha, hb, List.drop_left, Nat.add_sub_cancel_left, List.take_left]
theorem JiO {p : T_api_Page} (hp : J3N p) (tail : List UInt8) {j : Nat} (hj : j < 16) :
  ∃ A R, J0f p ++ tail = A ++ (J84 p.Cells[j] ++ R) ∧ A.length = 12 + 13 * j := by
 have hd : ∀ c ∈ p.Cells.toList, c.Data.length ≤ 12 := by
  intro c hc
  obtain ⟨i, hi, rfl⟩ := List.getElem_of_mem hc
  have h16 : i < 16 := by simpa using hi
  have := (hp.cells i h16).1
  simpa using this
 have e : p.Cells.toList = p.Cells.toList.take j ++ (p.Cells[j] :: p.Cells.toList.drop (j + 1)) := by
  have h1 : j < p.Cells.toList.length := by simpa using hj
  have h2 : p.Cells.toList.drop j = p.Cells.toList[j] :: p.Cells.toList.drop (j + 1) := List.drop_eq_getElem_cons h1
  have h3 : p.Cells.toList[j] = p.Cells[j] := by simp
  rw [← h3, ← h2, List.take_append_drop]
 refine ⟨Jv p.LSN 8 ++ Jv p.ID 4 ++ J1M (p.Cells.toList.take j), J1M (p.Cells.toList.drop (j + 1)) ++ List.replicate 24 0 ++ tail, ?_, ?_⟩
 ·have e2 : J1M p.Cells.toList = J1M (p.Cells.toList.take j) ++ (J84 p.Cells[j] ++ J1M (p.Cells.toList.drop (j + 1))) := by
   conv => lhs; rw [e]
   simp only [J1M, List.map_append, List.map_cons, List.flatten_append, List.flatten_cons]
  unfold J0f
  rw [e2]
  simp only [List.append_assoc]
 ·simp only [List.length_append, Jo]
  rw [Ja1 fun c hc => hd c (List.mem_of_mem_take hc)]
  simp; omega
theorem J9s {p : T_api_Page} (hp : J3N p) : (J0f p).length = 244 := by
 have hd : ∀ c ∈ p.Cells.toList, c.Data.length ≤ 12 := by
  intro c hc
  obtain ⟨i, hi, rfl⟩ := List.getElem_of_mem hc
  have h16 : i < 16 := by simpa using hi
  have := (hp.cells i h16).1
  simpa using this
 unfold J0f
 simp only [List.length_append, Jo, List.length_replicate]
 rw [Ja1 hd]
 simp
theorem Jqw {p : T_api_Page} (hp : J3N p) (tail : List UInt8) (ht : tail.length = 12) : J3g (J0f p ++ tail) = some (p, true) := by
 have i0 := hp.id0; have i1 := hp.id1; have l0 := hp.lsn0; have l1 := hp.lsn1
 have hlen : (J0f p ++ tail).length = 256 := by rw [List.length_append, J9s hp, ht]
 have hl8 : JC (J0f p ++ tail) 0 8 = some p.LSN := by
  have e : J0f p ++ tail = [] ++ (Jv ((p.LSN.toNat : Nat) : Int) 8 ++ (Jv p.ID 4 ++ J1M p.Cells.toList ++ List.replicate 24 0 ++ tail)) := by
   rw [show ((p.LSN.toNat : Nat) : Int) = p.LSN by omega]; simp only [J0f, List.append_assoc, List.nil_append]
  have h := JiZ [] (Jv p.ID 4 ++ J1M p.Cells.toList ++ List.replicate 24 0 ++ tail) (n := p.LSN.toNat) (k := 8) (by omega) (by omega) (by omega) (by omega) (by rw [← e]; omega)
  rw [← e] at h
  have h' : J0g (J0f p ++ tail) 0 8 = some (((p.LSN.toNat : Nat) : Int), 0) := h
  simp only [JC, h', Option.bind_some, show ((p.LSN.toNat : Nat) : Int) = p.LSN by omega]
 have hid : JC (J0f p ++ tail) 8 4 = some p.ID := by
  have e : J0f p ++ tail = Jv p.LSN 8 ++ (Jv ((p.ID.toNat : Nat) : Int) 4 ++ (J1M p.Cells.toList ++ List.replicate 24 0 ++ tail)) := by
   rw [show ((p.ID.toNat : Nat) : Int) = p.ID by omega]; simp only [J0f, List.append_assoc]
  have h := JiZ (Jv p.LSN 8) (J1M p.Cells.toList ++ List.replicate 24 0 ++ tail) (n := p.ID.toNat) (k := 4) (by omega) (by omega) (by omega) (by omega) (by rw [← e]; omega)
  rw [← e, Jo] at h
  have h' : J0g (J0f p ++ tail) 8 4 = some (((p.ID.toNat : Nat) : Int), 0) := h
  simp only [JC, h', Option.bind_some, show ((p.ID.toNat : Nat) : Int) = p.ID by omega]
 unfold J3g
 simp only [hl8, hid, Option.bind_some]
 obtain ⟨r, hr, rfl⟩ := J0P (f := fun q : Int × T_api_Page => J0o (J0f p ++ tail) ⟨0, 0, Vector.replicate 16 ⟨false, []⟩⟩ q.1 q.2)
  (fun q => ∃ j : Nat, q.1 = j ∧ j ≤ 16 ∧ q.2.ID = p.ID ∧ q.2.LSN = p.LSN ∧ ∀ (i : Nat) (h : i < 16), q.2.Cells[i] = if i < j then p.Cells[i] else ⟨false, []⟩) (fun q => (16 - q.1).toNat) (fun r => r = (p, true)) (fun q ⟨j, hj, h4, g1, g2, g3⟩ => by
  obtain ⟨j', q⟩ := q
  simp only at hj g1 g2 g3
  subst hj
  by_cases hlt : j < 16
  ·left
   have e1 : ((j : Nat) : Int) < 16 := by omega
   have e2 : IntKind.wrap .i64 (12 + IntKind.wrap .i64 ((j : Int) * 13)) = ((12 + 13 * j : Nat) : Int) := by
    rw [wrap64 (n := (j : Int) * 13) (by omega) (by omega), wrap64 (by omega) (by omega)]; omega
   obtain ⟨A, R, hs, hA⟩ := JiO hp tail hlt
   have hck := hp.cells j hlt
   generalize hc : p.Cells[j] = c at hs hck
   obtain ⟨hc1, hc2, hc3⟩ := hck
   have hb : ∃ h : 12 + 13 * j < (J0f p ++ tail).length, ((J0f p ++ tail)[12 + 13 * j]'h).toNat = if c.Set then c.Data.length else 255 := by
    refine ⟨by omega, ?_⟩
    have h5 : (J0f p ++ tail)[12 + 13 * j]? = some (UInt8.ofNat (J3V (if c.Set then (c.Data.length : Int) else 255) 0).toNat) := by
     rw [hs, List.getElem?_append_right (by omega), hA, Nat.sub_self]
     simp only [J84, List.append_assoc]
     rw [List.getElem?_append_left (by rw [Jo]; omega), Jhr (by omega)]
    rw [List.getElem?_eq_getElem (by omega)] at h5
    injection h5 with h5
    rw [h5]
    have hx : (if c.Set then (c.Data.length : Int) else 255) = (((if c.Set then c.Data.length else 255 : Nat) : Nat) : Int) := by split <;> simp
    have hx2 : (if c.Set then c.Data.length else 255 : Nat) < 256 := by split <;> omega
    rw [hx]
    have h6 := Jbh (((if c.Set then c.Data.length else 255 : Nat) : Nat) : Int) 0
    rw [Jif (by omega)] at h6 ⊢
    simp only [Nat.mul_zero, Nat.pow_zero, Nat.div_one, Nat.mod_eq_of_lt hx2] at h6 ⊢
    omega
   obtain ⟨hb0, hb⟩ := hb
   have e3 : JC (J0f p ++ tail) ((12 + 13 * j : Nat) : Int) 1 = some (((if c.Set then c.Data.length else 255 : Nat) : Nat) : Int) := by
    simp only [JC, Jdx _ (show (J0f p ++ tail).length ≤ 1000 by omega) hb0, Option.bind_some, hb]
   cases hset : c.Set with
   | false =>
    simp only [hset, Bool.false_eq_true, if_false] at e3
    refine ⟨⟨((j + 1 : Nat) : Int), q⟩, by simp only [J0o, e1, decide_true, if_true, e2, e3, Option.bind_some, J28 (show j < 1000000 by omega)]; rfl, ⟨j + 1, rfl, by omega, g1, g2, fun i hi => ?_⟩, by simp; omega⟩
    rw [g3 i hi]
    by_cases hij : i < j
    ·rw [if_pos hij, if_pos (by omega)]
    ·by_cases hij2 : i = j
     ·subst hij2
      rw [if_neg hij, if_pos (by omega), hc]
      have := hc2 hset
      cases c
      simp_all
     ·rw [if_neg hij, if_neg (by omega)]
   | true =>
    simp only [hset, if_true] at e3
    have e4 : (((c.Data.length : Nat) : Int) == 255) = false := by simp; omega
    have h12 : ¬ ((c.Data.length : Nat) : Int) > 12 := by omega
    have e5 : IntKind.wrap .i64 (((12 + 13 * j : Nat) : Int) + 1) = ((13 + 13 * j : Nat) : Int) := by rw [wrap64 (by omega) (by omega)]; omega
    have e6 : IntKind.wrap .i64 (((13 + 13 * j : Nat) : Int) + ((c.Data.length : Nat) : Int)) = ((13 + 13 * j + c.Data.length : Nat) : Int) := by rw [wrap64 (by omega) (by omega)]; omega
    have e7 : J2H (J0f p ++ tail) (some ((13 + 13 * j : Nat) : Int)) (some ((13 + 13 * j + c.Data.length : Nat) : Int)) = some c.Data := by
     have hs2 : J0f p ++ tail = (A ++ Jv (if c.Set then (c.Data.length : Int) else 255) 1) ++ (c.Data ++ (List.replicate (12 - c.Data.length) 0 ++ R)) := by
      rw [hs]; simp only [J84, List.append_assoc]
     rw [hs2]
     exact JsF (by rw [List.length_append, Jo]; omega) (by rw [List.length_append, Jo]; omega)
    refine ⟨⟨((j + 1 : Nat) : Int), ⟨q.ID, q.LSN, J7Z q.Cells (j : Int) ⟨true, c.Data⟩⟩⟩, by simp only [J0o, e1, decide_true, if_true, e2, e3, Option.bind_some, e4, Bool.false_eq_true, if_false, h12, decide_false, e5, e6, e7, J7L hlt, J43 _ j hlt, J28 (show j < 1000000 by omega)], ⟨j + 1, rfl, by omega, g1, g2, fun i hi => ?_⟩, by simp; omega⟩
    show (J7Z q.Cells (j : Int) ⟨true, c.Data⟩)[i] = _
    simp only [J7Z, Int.toNat_natCast, Vector.getElem_setIfInBounds]
    by_cases hij2 : j = i
    ·subst hij2
     rw [if_pos rfl, if_pos (by omega), hc]
     cases c
     simp_all
    ·rw [if_neg hij2, g3 i hi]
     by_cases hij : i < j
     ·rw [if_pos hij, if_pos (by omega)]
     ·rw [if_neg hij, if_neg (by omega)]
  ·right
   obtain rfl : j = 16 := by omega
   have e1 : ¬ (((16 : Nat) : Nat) : Int) < 16 := by omega
   refine ⟨(q, true), by simp only [J0o, e1, decide_false, Bool.false_eq_true, if_false, J57, Option.map_some], ?_⟩
   have hq : q = p := by
    cases q; cases p
    simp only [T_api_Page.mk.injEq]
    refine ⟨g1, g2, Vector.ext fun i hi => ?_⟩
    have := g3 i hi
    rw [if_pos hi] at this
    exact this
   rw [hq]) (0, ⟨p.ID, p.LSN, Vector.replicate 16 ⟨false, []⟩⟩) ⟨0, rfl, by omega, rfl, rfl, fun i hi => by simp⟩
 exact hr
end Go.Am
end
section
namespace Go.Am
theorem Jn5 {p : T_api_Page} (hp : J3N p) : ∃ s, J0M p = some (s, 0) ∧ s.length = 256 ∧ J0L s = some (p, 0) := by
 obtain ⟨c, hc, henc⟩ := Jgu hp
 obtain ⟨c0, c1⟩ := JpI hc
 have l0 := hp.lsn0; have l1 := hp.lsn1
 have hw : IntKind.wrap .i64 c = c := wrap64 (by omega) (by omega)
 rw [hw] at henc
 have hbl := J9s hp
 generalize hs : J0f p ++ Jv c 4 ++ Jv p.LSN 8 = s at henc
 have hlen : s.length = 256 := by rw [← hs]; simp [hbl, Jo]
 refine ⟨s, henc, hlen, ?_⟩
 have hrd : J3g s = some (p, true) := by
  rw [← hs, List.append_assoc]
  exact Jqw hp _ (by simp [Jo])
 have t8 : s.take 8 = Jv p.LSN 8 := by
  rw [← hs]
  simp only [J0f, List.append_assoc]
  rw [List.take_append_of_le_length (by rw [Jo]; omega), List.take_of_length_le (by rw [Jo]; omega)]
 have d248 : s.drop 248 = Jv p.LSN 8 := by
  rw [← hs, List.drop_append, List.drop_of_length_le (by simp [hbl, Jo]), List.nil_append]
  simp [hbl, Jo]
 have t244 : s.take 244 = J0f p := by
  rw [← hs, List.append_assoc, List.take_append_of_le_length (by omega), List.take_of_length_le (by omega)]
 have hsum : JC s 244 4 = some c := by
  have e : s = J0f p ++ (Jv ((c.toNat : Nat) : Int) 4 ++ Jv p.LSN 8) := by
   rw [show ((c.toNat : Nat) : Int) = c by omega, ← hs, List.append_assoc]
  have h := JiZ (J0f p) (Jv p.LSN 8) (n := c.toNat) (k := 4) (by omega) (by omega) (by omega) (by omega) (by rw [← e]; omega)
  rw [← e, hbl] at h
  have h' : J0g s 244 4 = some (((c.toNat : Nat) : Int), 0) := h
  simp only [JC, h', Option.bind_some, show ((c.toNat : Nat) : Int) = c by omega]
 have nb : s ≠ blk := by
  intro h
  have hl : p.LSN = 0 := by
   have h1 : Jv p.LSN 8 = Jv 0 8 := by rw [← t8, h, Jlv]
   exact JqK l0 l1 (by omega) (by omega) h1
  obtain ⟨A, R, hcell, hA⟩ := JiO hp (Jv c 4 ++ Jv p.LSN 8) (j := 0) (by omega)
  have hset : p.Cells[0].Set = false := by
   cases hh : p.Cells[0].Set with
   | false => rfl
   | true => exact ((hp.cells 0 (by omega)).2.2 hh hl).elim
  have h12 : s[12]? = some 255 := by
   rw [← hs, List.append_assoc, hcell, List.getElem?_append_right (by omega), hA]
   simp only [J84, hset, Bool.false_eq_true, if_false, List.append_assoc]
   rw [List.getElem?_append_left (by rw [Jo]; omega), Jhr (by omega)]
   decide +kernel
  have b12 : blk[12]? = some 0 := by decide +kernel
  rw [h, b12] at h12
  exact absurd h12 (by decide)
 unfold J0L
 have e0 : (((s.length : Nat) : Int) != 256) = false := by rw [hlen]; rfl
 have e1 : J2H s none (some 8) = some (s.take 8) := JcW s (b := 8) (by omega)
 have e2 : J2H s (some 248) none = some (s.drop 248) := Jh0 s (a := 248) (by omega)
 have e3 : J2H s none (some 244) = some (s.take 244) := JcW s (b := 244) (by omega)
 have nb' : (s == blk) = false := by simpa using nb
 simp only [e0, Bool.false_eq_true, if_false, Jcz, Option.bind_some, nb', e1, e2, t8, d248, beq_self_eq_true, if_true, hsum, e3, t244, hc, hw, bne_self_eq_false, hrd, henc]
end Go.Am
end
section
namespace Go.Am
end Go.Am
end
section
namespace Go.Am
def JfF (p : T_api_Page) : Prop := ∀ (i : Nat) (h : i < 16), J5r p.LSN p.Cells[i]
theorem Jk2 (p : T_api_Page) : ∃ b, J4X p = some b ∧ (b = true ↔ JfF p) := by
 refine J0P (f := fun s : Int => J0e p.Cells p s) (fun s => ∃ j : Nat, s = j ∧ j ≤ 16 ∧ ∀ (i : Nat) (h : i < 16), i < j → J5r p.LSN p.Cells[i]) (fun s => (16 - s).toNat)
  (fun b => b = true ↔ JfF p) (fun s ⟨j, hj, h4, hc⟩ => ?_) 0 ⟨0, rfl, by omega, fun i h hh => by omega⟩
 subst hj
 by_cases hlt : j < 16
 ·have e1 : ((j : Nat) : Int) < 16 := by omega
  have e2 := J43 p.Cells j hlt
  have e3 := J28 (show j < 1000000 by omega)
  have bad : ¬ J5r p.LSN p.Cells[j] → (false = true ↔ JfF p) := fun h1 => ⟨fun h => (by cases h), fun h2 => (h1 (h2 j hlt)).elim⟩
  have nxt : J5r p.LSN p.Cells[j] → ∀ (i : Nat) (h : i < 16), i < j + 1 → J5r p.LSN p.Cells[i] := by
   intro hok i hi hij
   by_cases hh : i < j
   ·exact hc i hi hh
   ·obtain rfl : i = j := by omega
    exact hok
  by_cases h12 : (((p.Cells[j]).Data.length : Nat) : Int) > 12
  ·right
   exact ⟨false, by simp only [J0e, e1, decide_true, if_true, e2, Option.bind_some, h12], bad fun h => by have := h.1; omega⟩
  ·by_cases hs : (p.Cells[j]).Set = true
   ·by_cases hl : p.LSN = 0
    ·right
     exact ⟨false, by simp only [J0e, e1, decide_true, if_true, e2, Option.bind_some, h12, decide_false, Bool.false_eq_true, if_false, hs, hl, beq_self_eq_true], bad fun h => h.2.2 hs hl⟩
    ·left
     have e4 : (p.LSN == 0) = false := by simpa using hl
     exact ⟨((j + 1 : Nat) : Int), by simp only [J0e, e1, decide_true, if_true, e2, Option.bind_some, h12, decide_false, Bool.false_eq_true, if_false, hs, e4, e3], ⟨j + 1, rfl, by omega, nxt ⟨by omega, (fun h => by rw [hs] at h; cases h), fun _ => hl⟩⟩, by omega⟩
   ·have hs' : (p.Cells[j]).Set = false := by simpa using hs
    by_cases hd : (p.Cells[j]).Data = []
    ·left
     exact ⟨((j + 1 : Nat) : Int), by simp only [J0e, e1, decide_true, if_true, e2, Option.bind_some, h12, decide_false, Bool.false_eq_true, if_false, hs', hd, beq_self_eq_true, e3]; rfl, ⟨j + 1, rfl, by omega, nxt ⟨by omega, fun _ => hd, fun h => (hs h).elim⟩⟩, by omega⟩
    ·right
     have e4 : ((p.Cells[j]).Data == []) = false := by simpa using hd
     exact ⟨false, by simp only [J0e, e1, decide_true, if_true, e2, Option.bind_some, h12, decide_false, Bool.false_eq_true, if_false, hs', e4], bad fun h => hd (h.2.1 hs')⟩
 ·right
  have e1 : ¬ ((j : Nat) : Int) < 16 := by omega
  exact ⟨true, by simp only [J0e, e1, decide_false, Bool.false_eq_true, if_false, J7c, Option.map_some], fun _ i h => hc i h (by omega), fun _ => rfl⟩
end Go.Am
end
section
namespace Go.Am
theorem JeP {n : Int} (h0 : 0 ≤ n) (h1 : n ≤ 1000000) : J2h n = some (List.replicate n.toNat 0) := by
 have e : (0 : Int) ≤ n ∧ n ≤ n ∧ ((1 : Nat) : Int) * n ≤ 281474976710656 ∧ n ≤ 281474976710656 := by omega
 have e2 : toStr (List.replicate n.toNat (0 : Int)) = List.replicate n.toNat 0 := by
  simp [toStr]
 unfold J2h mkS
 rw [if_pos e, Option.bind_some, e2]
theorem Jkh : J4o = some blk := by
 unfold J4o
 rw [JeP (by omega) (by omega)]
 rfl
theorem Ju2 (n : Int) : J7F n = J8t n := rfl
theorem JnI (p : T_api_Page) : J41 p = J1A p := by
 unfold J41 J1A J16
 by_cases h1 : p.ID ≥ 0
 ·by_cases h2 : p.ID < 64
  ·simp only [h1, h2, decide_true, if_true, Option.bind_some]
  ·simp only [h1, h2, decide_true, decide_false, if_true, Bool.false_eq_true, if_false, Option.bind_some]
 ·simp only [h1, decide_false, Bool.false_eq_true, if_false, Option.bind_some]
theorem JoY (p : T_api_Page) : ∃ b, J1A p = some b ∧ (b = true ↔ (0 ≤ p.ID ∧ p.ID < 64 ∧ 0 ≤ p.LSN ∧ p.LSN ≤ 1099511627776)) := by
 unfold J1A J16
 by_cases h1 : p.ID ≥ 0
 ·by_cases h2 : p.ID < 64
  ·by_cases h3 : p.LSN ≥ 0
   ·refine ⟨decide (p.LSN ≤ 1099511627776), by simp only [h1, h2, h3, decide_true, if_true, Option.bind_some], ?_⟩
    rw [decide_eq_true_eq]
    exact ⟨fun h => ⟨h1, h2, h3, h⟩, fun h => h.2.2.2⟩
   ·exact ⟨false, by simp only [h1, h2, h3, decide_true, decide_false, if_true, Bool.false_eq_true, if_false, Option.bind_some], by simp; omega⟩
  ·exact ⟨false, by simp only [h1, h2, decide_true, decide_false, if_true, Bool.false_eq_true, if_false, Option.bind_some], by simp; omega⟩
 ·exact ⟨false, by simp only [h1, decide_false, Bool.false_eq_true, if_false, Option.bind_some], by simp; omega⟩
theorem JkC (p : T_api_Page) : ∃ b, J56 p = some b ∧ (b = true ↔ JfF p) := by
 refine J0P (f := fun s : Int => J1F p s) (fun s => ∃ j : Nat, s = j ∧ j ≤ 16 ∧ ∀ (i : Nat) (h : i < 16), i < j → J5r p.LSN p.Cells[i]) (fun s => (16 - s).toNat)
  (fun b => b = true ↔ JfF p) (fun s ⟨j, hj, h4, hc⟩ => ?_) 0 ⟨0, rfl, by omega, fun i h hh => by omega⟩
 subst hj
 by_cases hlt : j < 16
 ·have e1 : ((j : Nat) : Int) < 16 := by omega
  have e2 := J43 p.Cells j hlt
  have e3 := J28 (show j < 1000000 by omega)
  have e0 := J7L hlt
  have bad : ¬ J5r p.LSN p.Cells[j] → (false = true ↔ JfF p) := fun h1 => ⟨fun h => (by cases h), fun h2 => (h1 (h2 j hlt)).elim⟩
  have nxt : J5r p.LSN p.Cells[j] → ∀ (i : Nat) (h : i < 16), i < j + 1 → J5r p.LSN p.Cells[i] := by
   intro hok i hi hij
   by_cases hh : i < j
   ·exact hc i hi hh
   ·obtain rfl : i = j := by omega
    exact hok
  by_cases h12 : (((p.Cells[j]).Data.length : Nat) : Int) ≤ 12
  ·by_cases hs : (p.Cells[j]).Set = true
   ·have v1 : J0y p.Cells[j] = some true := by simp only [J0y, h12, decide_true, if_true, hs]
    by_cases hl : p.LSN = 0
    ·right
     exact ⟨false, by simp only [J1F, e1, decide_true, if_true, e0, e2, Option.bind_some, v1, hs, hl, beq_self_eq_true], bad fun h => h.2.2 hs hl⟩
    ·left
     have e4 : (p.LSN == 0) = false := by simpa using hl
     exact ⟨((j + 1 : Nat) : Int), by simp only [J1F, e1, decide_true, if_true, e0, e2, Option.bind_some, v1, e4, Bool.false_eq_true, if_false, e3], ⟨j + 1, rfl, by omega, nxt ⟨by omega, (fun h => by rw [hs] at h; cases h), fun _ => hl⟩⟩, by omega⟩
   ·have hs' : (p.Cells[j]).Set = false := by simpa using hs
    by_cases hd : (p.Cells[j]).Data = []
    ·have v1 : J0y p.Cells[j] = some true := by simp only [J0y, h12, decide_true, if_true, hs', Bool.false_eq_true, if_false]; rw [hd]; rfl
     left
     refine ⟨((j + 1 : Nat) : Int), ?_, ⟨j + 1, rfl, by omega, nxt ⟨by omega, fun _ => hd, fun h => (hs h).elim⟩⟩, by omega⟩
     simp only [J1F, e1, decide_true, if_true, e0, e2, Option.bind_some, v1, hs', Bool.false_eq_true, if_false, e3]
     split <;> rfl
    ·right
     have e4 : ((p.Cells[j]).Data == []) = false := by simpa using hd
     have v1 : J0y p.Cells[j] = some false := by simp only [J0y, h12, decide_true, if_true, hs', Bool.false_eq_true, if_false, e4]
     exact ⟨false, by simp only [J1F, e1, decide_true, if_true, e0, e2, Option.bind_some, v1, Bool.false_eq_true, if_false], bad fun h => hd (h.2.1 hs')⟩
  ·right
   have v1 : J0y p.Cells[j] = some false := by simp only [J0y, h12, decide_false, Bool.false_eq_true, if_false]
   exact ⟨false, by simp only [J1F, e1, decide_true, if_true, e0, e2, Option.bind_some, v1, Bool.false_eq_true, if_false], bad fun h => h12 (by have := h.1; omega)⟩
 ·right
  have e1 : ¬ ((j : Nat) : Int) < 16 := by omega
  exact ⟨true, by simp only [J1F, e1, decide_false, Bool.false_eq_true, if_false, J86, Option.map_some], fun _ i h => hc i h (by omega), fun _ => rfl⟩
theorem Jpr (p : T_api_Page) : J56 p = J4X p := by
 obtain ⟨b, h1, h2⟩ := Jk2 p
 obtain ⟨c, h3, h4⟩ := JkC p
 rw [h1, h3]
 congr 1
 cases b <;> cases c <;> simp_all
def J9L (p : T_api_Page) : List UInt8 := J0f p ++ Jv ((crc (J0f p) : Nat) : Int) 4 ++ Jv p.LSN 8
theorem JeM {p : T_api_Page} (hp : J3N p) : J0M p = some (J9L p, 0) := by
 obtain ⟨c, h1, h2⟩ := Jgu hp
 rw [Jhs _ (by rw [J9s hp]; omega)] at h1
 injection h1 with h1
 subst h1
 have hc := Jix (J0f p)
 rw [wrap64 (by omega) (by omega)] at h2
 exact h2
theorem JiP {p : T_api_Page} (hp : J3N p) : ∀ (m j : Nat), j + m = 16 →
  Ju (fun s : List UInt8 × Int => J3B p s.1 s.2) (Jv p.LSN 8 ++ Jv p.ID 4 ++ J1M (p.Cells.toList.take j), (j : Int)) = some (J9L p, 0) := by
 have hd : ∀ c ∈ p.Cells.toList, c.Data.length ≤ 12 := by
  intro c hc
  obtain ⟨i, hi, rfl⟩ := List.getElem_of_mem hc
  have h16 : i < 16 := by simpa using hi
  have := (hp.cells i h16).1
  simpa using this
 have hlen : ∀ j, j ≤ 16 → (Jv p.LSN 8 ++ Jv p.ID 4 ++ J1M (p.Cells.toList.take j)).length = 12 + 13 * j := by
  intro j hj
  have hl : (J1M (p.Cells.toList.take j)).length = 13 * j := by
   rw [Ja1 fun c hc => hd c (List.mem_of_mem_take hc)]
   simp; omega
  simp only [List.length_append, Jo, hl]
 intro m
 induction m with
 | zero =>
  intro j hj
  obtain rfl : j = 16 := by omega
  refine J2A ?_
  have e1 : ¬ (((16 : Nat) : Nat) : Int) < 16 := by omega
  have e5 : p.Cells.toList.take 16 = p.Cells.toList := List.take_of_length_le (by simp)
  have h0 := hlen 16 (by omega)
  rw [e5] at h0 ⊢
  generalize hx : Jv p.LSN 8 ++ Jv p.ID 4 ++ J1M p.Cells.toList = x at h0
  have a0 : IntKind.wrap .i64 (244 - ((x.length : Nat) : Int)) = 24 := by rw [h0, wrap64 (by omega) (by omega)]; omega
  have a1 : J2h 24 = some (List.replicate 24 0) := JeP (n := 24) (by omega) (by omega)
  have a6 : x ++ List.replicate 24 0 = J0f p := by rw [← hx]; rfl
  have a2 : J46 x (List.replicate 24 0) = some (J0f p) := by rw [← a6]; exact Jbt (by simp; omega)
  have a3 := Joq (J0f p) (by rw [J9s hp]; omega)
  have hc := Jix (J0f p)
  have a7 : IntKind.wrap .i64 ((crc (J0f p) : Nat) : Int) = ((crc (J0f p) : Nat) : Int) := wrap64 (by omega) (by omega)
  have a4 : J1t (J0f p) ((crc (J0f p) : Nat) : Int) 4 = some (J0f p ++ Jv ((crc (J0f p) : Nat) : Int) 4) := J9Z _ _ (k := 4) (by omega) (by omega) (by rw [J9s hp]; omega)
  have a5 : J1t (J0f p ++ Jv ((crc (J0f p) : Nat) : Int) 4) p.LSN 8 = some (J9L p) := J9Z _ _ (k := 8) (by omega) (by omega) (by rw [List.length_append, J9s hp, Jo]; omega)
  simp only [J3B, e1, decide_false, Bool.false_eq_true, if_false, J7r, a0, a1, a2, a3, a7, a4, a5, Option.bind_some, Option.map_some]
 | succ m ih =>
  intro j hj
  have hlt : j < 16 := by omega
  have e1 : ((j : Nat) : Int) < 16 := by omega
  have h0 := hlen j (by omega)
  have e3 : p.Cells.toList.take (j + 1) = p.Cells.toList.take j ++ [p.Cells[j]] := by
   rw [List.take_add_one, List.getElem?_eq_getElem (by simpa using hlt)]
   simp
  have hcl := (hp.cells j hlt).1
  have go : ∀ n : Int, n = (if (p.Cells[j]).Set then ((p.Cells[j]).Data.length : Int) else 255) →
    J4M (Jv p.LSN 8 ++ Jv p.ID 4 ++ J1M (p.Cells.toList.take j)) (j : Int) n p = some (.inl (Jv p.LSN 8 ++ Jv p.ID 4 ++ J1M (p.Cells.toList.take (j + 1)), ((j + 1 : Nat) : Int))) := by
   intro n hn
   rw [e3, Jgy, ← List.append_assoc]
   generalize Jv p.LSN 8 ++ Jv p.ID 4 ++ J1M (p.Cells.toList.take j) = x at h0
   have a0 : IntKind.wrap .i64 (12 - (((p.Cells[j]).Data.length : Nat) : Int)) = ((12 - (p.Cells[j]).Data.length : Nat) : Int) := by rw [wrap64 (by omega) (by omega)]; omega
   have a1 : J2h ((12 - (p.Cells[j]).Data.length : Nat) : Int) = some (List.replicate (12 - (p.Cells[j]).Data.length) 0) := by
    rw [JeP (by omega) (by omega), Int.toNat_natCast]
   have a2 : J1t x n 1 = some (x ++ Jv n 1) := J9Z _ _ (k := 1) (by omega) (by omega) (by omega)
   have a3 : J46 (p.Cells[j]).Data (List.replicate (12 - (p.Cells[j]).Data.length) 0) = some ((p.Cells[j]).Data ++ List.replicate (12 - (p.Cells[j]).Data.length) 0) := Jbt (by simp; omega)
   have a4 : J46 (x ++ Jv n 1) ((p.Cells[j]).Data ++ List.replicate (12 - (p.Cells[j]).Data.length) 0) = some (x ++ J84 p.Cells[j]) := by
    rw [Jbt (by simp only [List.length_append, Jo, List.length_replicate]; omega)]
    simp only [J84, hn, List.append_assoc]
   simp only [J4M, a2, J7L hlt, J43 _ j hlt, a0, a1, a3, a4, Option.bind_some, J7m, J28 (show j < 1000000 by omega)]
  refine (J3q (s' := (Jv p.LSN 8 ++ Jv p.ID 4 ++ J1M (p.Cells.toList.take (j + 1)), ((j + 1 : Nat) : Int))) ?_).trans (ih (j + 1) (by omega))
  simp only [J3B, e1, decide_true, if_true, J7L hlt, J43 _ j hlt, Option.bind_some]
  cases hs : (p.Cells[j]).Set with
  | true => simp only [if_true]; exact go _ (by rw [hs]; rfl)
  | false => simp only [Bool.false_eq_true, if_false]; exact go _ (by rw [hs]; rfl)
theorem JpD (p : T_api_Page) : ∃ e, J5m p = some e ∧ (e = 0 ↔ J3N p) ∧ (e ≠ 0 → J0M p = some ([], e)) := by
 obtain ⟨a, h1, h2⟩ := JoY p
 obtain ⟨b, h3, h4⟩ := Jk2 p
 unfold J5m
 simp only [JnI, Jpr, h1, h3, Option.bind_some]
 cases a with
 | false =>
  refine ⟨1, rfl, ⟨fun h => (by cases h), fun h => ?_⟩, fun _ => ?_⟩
  ·have := h2.2 ⟨h.id0, h.id1, h.lsn0, h.lsn1⟩
   cases this
  ·unfold J0M
   simp only [h1, Option.bind_some, Bool.false_eq_true, if_false]
 | true =>
  obtain ⟨i0, i1, l0, l1⟩ := h2.1 rfl
  cases b with
  | false =>
   refine ⟨22, rfl, ⟨fun h => (by cases h), fun h => ?_⟩, fun _ => ?_⟩
   ·have := h4.2 h.cells
    cases this
   ·unfold J0M
    simp only [h1, h3, Option.bind_some, if_true, Bool.false_eq_true, if_false]
  | true => exact ⟨0, rfl, ⟨fun _ => ⟨i0, i1, l0, l1, h4.1 rfl⟩, fun _ => rfl⟩, fun h => (h rfl).elim⟩
theorem Jdo (p : T_api_Page) : J1Y p = J0M p := by
 obtain ⟨e, h1, h2, h3⟩ := JpD p
 unfold J1Y
 simp only [h1, Option.bind_some]
 by_cases he : e = 0
 ·have hp := h2.1 he
  have e0 : (e != 0) = false := by simp [he]
  have a1 : J1t [] p.LSN 8 = some (Jv p.LSN 8) := J9Z [] _ (k := 8) (by omega) (by omega) (by simp)
  have a2 : J1t (Jv p.LSN 8) p.ID 4 = some (Jv p.LSN 8 ++ Jv p.ID 4) := J9Z _ _ (k := 4) (by omega) (by omega) (by rw [Jo]; omega)
  simp only [e0, Bool.false_eq_true, if_false, a1, a2, Option.bind_some]
  rw [JeM hp]
  have h := JiP hp 16 0 (by omega)
  simp only [List.take_zero, J1M, List.map_nil, List.flatten_nil, List.append_nil] at h
  exact h
 ·have e0 : (e != 0) = true := by simpa using he
  simp only [e0, if_true]
  rw [h3 he]
end Go.Am
end
section
namespace Go.Am
set_option maxRecDepth 16000
theorem Jia (p : T_api_Page) : ∃ r, J0M p = some r := by
 obtain ⟨r, h, _⟩ := Jib p
 exact ⟨r, h⟩
theorem JhS {s : List UInt8} {at_ k n : Int} (h : JC s at_ k = some n) : ∃ e, J0g s at_ k = some (n, e) := by
 unfold JC at h
 obtain ⟨r, h1, h2⟩ := Option.bind_eq_some_iff.1 h
 injection h2 with h2
 exact ⟨r.2, by rw [h1, ← h2]⟩
theorem Jtk (s : List UInt8) (hs : s.length ≤ 1000) {at_ k : Nat} (h1 : 1 ≤ k) (h8 : k ≤ 4) (ha : at_ ≤ 1000) : ∃ (n : Nat) (e : Int), J0g s at_ k = some ((n : Int), e) ∧ n < 2 ^ 32 := by
 have a1 : ¬ (k : Int) < 1 := by omega
 have a2 : ¬ (k : Int) > 8 := by omega
 have a3 : ¬ (at_ : Int) < 0 := by omega
 unfold J0g
 simp only [a1, a2, a3, decide_false, Bool.false_eq_true, if_false]
 by_cases c1 : (at_ : Int) > (s.length : Int)
 ·exact ⟨0, 5, by simp only [c1, decide_true, if_true]; rfl, by decide⟩
 ·have e0 : IntKind.wrap .i64 ((s.length : Int) - at_) = (s.length : Int) - at_ := wrap64 (by omega) (by omega)
  by_cases c2 : (s.length : Int) - at_ < k
  ·exact ⟨0, 5, by simp only [c1, e0, c2, decide_false, decide_true, Bool.false_eq_true, if_false, if_true]; rfl, by decide⟩
  ·simp only [c1, e0, c2, decide_false, Bool.false_eq_true, if_false]
   obtain ⟨r, hr, n, e, rfl, hn⟩ := J0P (f := fun q : Int × Int => J0h s at_ k q.1 q.2) (fun q => ∃ j x : Nat, q.2 = j ∧ q.1 = x ∧ j ≤ k ∧ x < 2 ^ (8 * j)) (fun q => (k - q.2).toNat)
    (fun r => ∃ (n : Nat) (e : Int), r = ((n : Int), e) ∧ n < 2 ^ 32) (fun q ⟨j, x, hj, hx, hjk, hxl⟩ => by
    obtain ⟨x', j'⟩ := q
    simp only at hj hx
    subst hj hx
    by_cases hlt : j < k
    ·left
     have e1 : ((j : Nat) : Int) < (k : Int) := by omega
     have e2 : IntKind.wrap .i64 ((at_ : Int) + (j : Int)) = ((at_ + j : Nat) : Int) := by rw [wrap64 (by omega) (by omega)]; omega
     have e3 : IntKind.wrap .i64 (8 * (j : Int)) = ((8 * j : Nat) : Int) := by rw [wrap64 (by omega) (by omega)]; omega
     have hlt2 : at_ + j < s.length := by omega
     have hu : (s[at_ + j]).toNat < 256 := UInt8.toNat_lt _
     have e4 : JcF .u64 (IntKind.wrap .u64 (((s[at_ + j]).toNat : Nat) : Int)) ((8 * j : Nat) : Int) = some (IntKind.wrap .u64 ((((s[at_ + j]).toNat : Nat) : Int) * 2 ^ (8 * j))) := by
      rw [J7H (by omega) (by omega)]
      simp only [JcF]
      rw [if_neg (by omega)]
      have : min (((8 * j : Nat) : Int)).toNat IntKind.u64.bits = 8 * j := by
       simp only [Int.toNat_natCast]
       exact Nat.min_eq_left (by show 8 * j ≤ 64; omega)
      rw [this]
     have e5 := Jqx (x := x) (b := (s[at_ + j]).toNat) (j := j) (by omega) hxl hu
     refine ⟨(((x + (s[at_ + j]).toNat * 2 ^ (8 * j) : Nat) : Int), ((j + 1 : Nat) : Int)), ?_, ⟨j + 1, x + (s[at_ + j]).toNat * 2 ^ (8 * j), rfl, rfl, by omega, ?_⟩, by show ((k : Int) - ((j + 1 : Nat) : Int)).toNat < ((k : Int) - (j : Int)).toNat; omega⟩
     ·simp only [J0h, e1, decide_true, if_true, e2, J8D hlt2, Option.bind_some, e3, e4, e5, J28 (show j < 1000000 by omega)]
     ·have : (s[at_ + j]).toNat * 2 ^ (8 * j) + 2 ^ (8 * j) ≤ 256 * 2 ^ (8 * j) := by
       rw [← Nat.succ_mul]; exact Nat.mul_le_mul_right _ hu
      have e6 : 2 ^ (8 * (j + 1)) = 256 * 2 ^ (8 * j) := by rw [Nat.mul_add, Nat.pow_add, Nat.mul_comm]
      omega
    ·right
     obtain rfl : j = k := by omega
     have e1 : ¬ ((j : Nat) : Int) < (j : Int) := by omega
     have h32 : (2 : Nat) ^ (8 * j) ≤ 2 ^ 32 := Nat.pow_le_pow_right (by omega) (by omega)
     refine ⟨((x : Int), 0), ?_, x, 0, rfl, by omega⟩
     simp only [J0h, e1, decide_false, Bool.false_eq_true, if_false, J5a, Option.map_some]
     rw [wrap64 (by omega) (by omega)]) (0, 0) ⟨0, 0, rfl, rfl, by omega, by decide⟩
   exact ⟨n, e, hr, hn⟩
theorem bind_none {α β : Type} {o : Option α} {f : α → Option β} (h : Option.bind o f = none) (h2 : ∀ x, o = some x → f x ≠ none) : o = none := by
 cases o with
 | none => rfl
 | some x => exact (h2 x rfl h).elim
theorem JqR {s : List UInt8} (hs : s.length = 256) (p0 : T_api_Page) (q : Int × T_api_Page) (hq : ∃ j : Nat, q.1 = j ∧ j ≤ 16) {r : T_api_Page × Bool} (h : J9g s p0 q = some r) :
  ∃ r', J9o s p0 q = some r' ∧ (if r.2 = true then J2I s p0 r.1 = some r' else r' = (⟨0, 0, Vector.replicate 16 ⟨false, []⟩⟩, 4)) := by
 refine JpH (f := fun q : Int × T_api_Page => J0o s p0 q.1 q.2) (g := fun q : Int × T_api_Page => J2E s p0 q.1 q.2) (fun a b => a = b ∧ ∃ j : Nat, a.1 = j ∧ j ≤ 16)
  (fun r r' => if r.2 = true then J2I s p0 r.1 = some r' else r' = (⟨0, 0, Vector.replicate 16 ⟨false, []⟩⟩, 4)) ?_ ?_ ⟨rfl, hq⟩ h
 all_goals
  rintro ⟨j', p⟩ _ r ⟨rfl, j, hj, h16⟩ e
  simp only at hj
  subst hj
 ·by_cases hlt : j < 16
  ·have e1 : ((j : Nat) : Int) < 16 := by omega
   have e2 : IntKind.wrap .i64 (12 + IntKind.wrap .i64 ((j : Int) * 13)) = ((12 + 13 * j : Nat) : Int) := by
    rw [wrap64 (n := (j : Int) * 13) (by omega) (by omega), wrap64 (by omega) (by omega)]; omega
   have hu : (s[12 + 13 * j]'(by omega)).toNat < 256 := UInt8.toNat_lt _
   have e3 : JC s ((12 + 13 * j : Nat) : Int) 1 = some (((s[12 + 13 * j]'(by omega)).toNat : Nat) : Int) := by
    simp only [JC, Jdx s (by omega) (show 12 + 13 * j < s.length by omega), Option.bind_some]
   have e4 := J8D (l := s) (k := 12 + 13 * j) (by omega)
   generalize hv : (s[12 + 13 * j]'(by omega)).toNat = v at e3 e4 hu
   have e5 : IntKind.wrap .i64 ((v : Nat) : Int) = ((v : Nat) : Int) := wrap64 (by omega) (by omega)
   have e6 := J28 (show j < 1000000 by omega)
   simp only [J0o, e1, decide_true, if_true, e2, e3, Option.bind_some, e6] at e
   simp only [J2E, e1, decide_true, if_true, e2, e4, Option.bind_some, e5, J4K, e6]
   split at e
   ·rename_i h255
    injection e with e; injection e with e; subst e
    exact ⟨_, by rw [if_pos h255], rfl, j + 1, rfl, by omega⟩
   ·rename_i h255
    rw [if_neg h255]
    split at e
    ·cases e
    ·rename_i h12
     rw [if_neg h12]
     simp only [Option.bind_eq_some_iff, Option.some.injEq, Sum.inl.injEq] at e
     obtain ⟨m, hm, u, hu1, y, hy, rfl⟩ := e
     exact ⟨_, by simp only [hm, hu1, hy, Option.bind_some], rfl, j + 1, rfl, by omega⟩
  ·have e1 : ¬ ((j : Nat) : Int) < 16 := by omega
   simp only [J0o, e1, decide_false, Bool.false_eq_true, if_false, J57, Option.map_some] at e
   cases e
 ·by_cases hlt : j < 16
  ·have e1 : ((j : Nat) : Int) < 16 := by omega
   have e2 : IntKind.wrap .i64 (12 + IntKind.wrap .i64 ((j : Int) * 13)) = ((12 + 13 * j : Nat) : Int) := by
    rw [wrap64 (n := (j : Int) * 13) (by omega) (by omega), wrap64 (by omega) (by omega)]; omega
   have hu : (s[12 + 13 * j]'(by omega)).toNat < 256 := UInt8.toNat_lt _
   have e3 : JC s ((12 + 13 * j : Nat) : Int) 1 = some (((s[12 + 13 * j]'(by omega)).toNat : Nat) : Int) := by
    simp only [JC, Jdx s (by omega) (show 12 + 13 * j < s.length by omega), Option.bind_some]
   have e4 := J8D (l := s) (k := 12 + 13 * j) (by omega)
   generalize hv : (s[12 + 13 * j]'(by omega)).toNat = v at e3 e4 hu
   have e5 : IntKind.wrap .i64 ((v : Nat) : Int) = ((v : Nat) : Int) := wrap64 (by omega) (by omega)
   simp only [J0o, e1, decide_true, if_true, e2, e3, Option.bind_some] at e
   simp only [J2E, e1, decide_true, if_true, e2, e4, Option.bind_some, e5, J4K]
   split at e
   ·cases e
   ·rename_i h255
    rw [if_neg h255]
    split at e
    ·rename_i h12
     injection e with e; injection e with e; subst e
     exact ⟨_, by rw [if_pos h12], by simp⟩
    ·simp only [Option.bind_eq_some_iff, Option.some.injEq] at e
     obtain ⟨_, _, _, _, _, _, e⟩ := e
     cases e
  ·have e1 : ¬ ((j : Nat) : Int) < 16 := by omega
   simp only [J0o, e1, decide_false, Bool.false_eq_true, if_false, J57, Option.map_some, Option.some.injEq, Sum.inr.injEq] at e
   subst e
   have ht : ∃ r', J2I s p0 p = some r' := by
    unfold J2I
    rw [Jdo]
    obtain ⟨x, hx⟩ := Jia p
    rw [hx, Option.bind_some]
    split
    ·exact ⟨_, rfl⟩
    ·split <;> exact ⟨_, rfl⟩
   obtain ⟨r', hr'⟩ := ht
   exact ⟨r', by simp only [J2E, e1, decide_false, Bool.false_eq_true, if_false, hr', Option.map_some], by simpa using hr'⟩
theorem JoC (s : List UInt8) : J4H s = J0L s := by
 unfold J4H J0L
 by_cases hs : s.length = 256
 ·have e0 : (((s.length : Nat) : Int) != 256) = false := by rw [hs]; rfl
  have e3 : J2H s none (some 244) = some (s.take 244) := JcW s (b := 244) (by omega)
  have e1 : J2H s none (some 8) = some (s.take 8) := JcW s (b := 8) (by omega)
  have e2 : J2H s (some 248) none = some (s.drop 248) := Jh0 s (a := 248) (by omega)
  have g1 : J2K s 244 4 = J0g s 244 4 := Jjs s 244 (k := 4) (by omega) (by omega)
  have g2 : J2K s 0 8 = J0g s 0 8 := Jjs s 0 (k := 8) (by omega) (by omega)
  have g3 : J2K s 8 4 = J0g s 8 4 := Jjs s 8 (k := 4) (by omega) (by omega)
  have c1 := Joq (s.take 244) (by simp; omega)
  have c2 := Jhs (s.take 244) (by simp; omega)
  have hc := Jix (s.take 244)
  obtain ⟨n1, x1, k1, l1⟩ := Jtk s (by omega) (at_ := 244) (k := 4) (by omega) (by omega) (by omega)
  have k1' : J0g s 244 4 = some ((n1 : Int), x1) := k1
  obtain ⟨n2, k2⟩ := J9K s (by omega) (at_ := 0) (k := 8) (by omega) (by omega) (by omega)
  have k2' : JC s 0 8 = some n2 := k2
  obtain ⟨x2, k2''⟩ := JhS k2'
  obtain ⟨n3, k3⟩ := J9K s (by omega) (at_ := 8) (k := 4) (by omega) (by omega) (by omega)
  have k3' : JC s 8 4 = some n3 := k3
  obtain ⟨x3, k3''⟩ := JhS k3'
  have m1 : JC s 244 4 = some (n1 : Int) := by simp only [JC, k1', Option.bind_some]
  have w1 : IntKind.wrap .u32 (n1 : Int) = (n1 : Int) := Jar n1 l1
  have w2 : IntKind.wrap .i64 ((crc (s.take 244) : Nat) : Int) = ((crc (s.take 244) : Nat) : Int) := wrap64 (by omega) (by omega)
  obtain ⟨p, hp⟩ := JlV s hs
  simp only [e0, Bool.false_eq_true, if_false, Jkh, Jcz, Option.bind_some, e1, e2, e3, g1, g2, g3, c1, c2, k1', k2'', k3'', m1, w1, w2, hp]
  split
  ·rfl
  ·split
   ·split
    ·rfl
    ·have hp' : J9g s ⟨0, 0, Vector.replicate 16 ⟨false, []⟩⟩ (0, ⟨n3, n2, Vector.replicate 16 ⟨false, []⟩⟩) = some p := by
      have := hp
      unfold J3g at this
      simpa only [k3', k2', Option.bind_some] using this
     obtain ⟨r', hr1, hr2⟩ := JqR hs _ _ ⟨0, rfl, by omega⟩ hp'
     rw [hr1]
     obtain ⟨x, hx⟩ := Jia p.1
     rw [hx, Option.bind_some]
     by_cases hb : p.2 = true
     ·rw [if_pos hb] at hr2 ⊢
      rw [← hr2]
      unfold J2I
      rw [Jdo, hx, Option.bind_some]
     ·rw [if_neg hb] at hr2 ⊢
      rw [hr2]
   ·rfl
 ·have e0 : (((s.length : Nat) : Int) != 256) = true := by simp; omega
  simp only [e0, if_true]
theorem Jdd (s : List UInt8) : ∃ r, J0L s = some r := by
 by_cases hs : s.length = 256
 ·obtain ⟨r, h, _⟩ := Jp1 s hs
  exact ⟨r, h⟩
 ·have e0 : (((s.length : Nat) : Int) != 256) = true := by simp; omega
  unfold J0L
  simp only [e0, if_true]
  exact ⟨_, rfl⟩
theorem JnK {s : List UInt8} {r : T_api_Page × Int} (h : J0L s = some r) (h0 : r.2 ≠ 0) : r.1 = ⟨0, 0, Vector.replicate 16 ⟨false, []⟩⟩ := by
 unfold J0L at h
 split at h
 ·injection h with h; subst h; rfl
 ·obtain ⟨_, _, h⟩ := Option.bind_eq_some_iff.1 h
  split at h
  ·injection h with h; subst h; rfl
  ·simp only [Option.bind_eq_some_iff] at h
   obtain ⟨_, _, _, _, h⟩ := h
   split at h
   ·simp only [Option.bind_eq_some_iff] at h
    obtain ⟨_, _, _, _, _, _, h⟩ := h
    split at h
    ·injection h with h; subst h; rfl
    ·simp only [Option.bind_eq_some_iff] at h
     obtain ⟨_, _, _, _, h⟩ := h
     split at h
     ·split at h
      ·injection h with h; subst h; rfl
      ·split at h
       ·injection h with h; subst h; exact (h0 rfl).elim
       ·injection h with h; subst h; rfl
     ·injection h with h; subst h; rfl
   ·injection h with h; subst h; rfl
theorem Jm8 (s : List UInt8) (k : Int) : J1H s k = J0v s k := by
 unfold J1H J0v J16
 obtain ⟨r, hr⟩ := Jdd s
 simp only [JoC, hr, Option.bind_some]
 by_cases h1 : k < 0
 ·have h2 : ¬ k ≥ 0 := by omega
  simp only [h1, h2, decide_true, decide_false, if_true, Bool.false_eq_true, if_false, Option.bind_some]
 ·have h2 : k ≥ 0 := by omega
  by_cases h3 : k ≥ 64
  ·have h4 : ¬ k < 64 := by omega
   simp only [h1, h2, h3, h4, decide_true, decide_false, if_true, Bool.false_eq_true, if_false, Option.bind_some]
  ·have h4 : k < 64 := by omega
   simp only [h1, h2, h3, h4, decide_true, decide_false, if_true, Bool.false_eq_true, if_false, Option.bind_some, Ju2]
   split
   ·rfl
   ·by_cases h0 : r.2 = 0
    ·have d1 : (r.2 == 0) = true := by simpa using h0
     have d2 : (r.2 != 0) = false := by simp [h0]
     simp only [d1, d2, if_true, Bool.false_eq_true, if_false]
     rw [h0]
    ·have d1 : (r.2 == 0) = false := by simpa using h0
     have d2 : (r.2 != 0) = true := by simpa using h0
     simp only [d1, d2, if_true, Bool.false_eq_true, if_false]
     rw [← JnK hr h0]
theorem Jfk (s : List UInt8) (k : Int) : ∃ r, J0v s k = some r := by
 unfold J0v J16
 obtain ⟨r, hr⟩ := Jdd s
 simp only [hr, Option.bind_some]
 by_cases h1 : k ≥ 0
 ·simp only [h1, decide_true, if_true, Option.bind_some]
  split
  ·split
   ·exact ⟨_, rfl⟩
   ·split
    ·exact ⟨_, rfl⟩
    ·split <;> exact ⟨_, rfl⟩
  ·exact ⟨_, rfl⟩
 ·simp only [h1, decide_false, Bool.false_eq_true, if_false, Option.bind_some]
  exact ⟨_, rfl⟩
end Go.Am
end
section
namespace Go.Am
set_option maxRecDepth 16000
theorem Jtu {l : List Int} (h : List.length l ≤ maxLen ∧ ∀ x ∈ l, 0 ≤ x ∧ x ≤ 255) {n : Nat} (hn : n ≤ 1000) : ∃ b, J7j l (n : Int) = some b ∧ J1o b := JuH h.2 hn
theorem Jpl {p : T_api_Page} (hp : J3N p) : (J9L p).length = 256 := by
 simp [J9L, J9s hp, Jo]
theorem Jle {p : T_api_Page} (hp : J3N p) {k : Int} (h0 : 0 ≤ k) (h1 : k < 64) : J0v (J9L p) k = some (if p.ID = k then (p, 0) else (⟨0, 0, Vector.replicate 16 ⟨false, []⟩⟩, 6)) := by
 obtain ⟨s, e1, e2, e3⟩ := Jn5 hp
 rw [JeM hp] at e1
 injection e1 with e1; injection e1 with e1 _; subst e1
 have e0 : J16 k = some true := by simp [J16, h0, h1]
 unfold J0v
 simp only [e0, e3, Option.bind_some, if_true]
 by_cases hk : p.ID = k
 ·have d1 : (p.ID != k) = false := by simp [hk]
  simp only [d1, Bool.false_eq_true, if_false, if_pos hk]
  rfl
 ·have d1 : (p.ID != k) = true := by simpa using hk
  simp only [d1, if_true, if_neg hk]
  rfl
theorem Jrz {b : T_pagemenddraw_Codes} (hb : J1o b) : ∃ t b', J2D b = some (t, b') ∧ J1o b' ∧ t.length = 256 := by
 obtain ⟨r, b1, e1, hb1, _, _⟩ := J50 hb (n := 256) (by omega) (by omega)
 obtain ⟨z, b2, e2, hb2, z0, z1⟩ := J50 hb1 (n := 256) (by omega) (by omega)
 obtain ⟨y, b3, e3, hb3, _, _⟩ := J50 hb2 (n := 256) (by omega) (by omega)
 obtain ⟨k, rfl⟩ : ∃ k : Nat, z = (k : Int) := ⟨z.toNat, by omega⟩
 have e0 : mkS 1 256 256 (0 : Int) = some (List.replicate 256 0) := by
  unfold mkS
  rw [if_pos (by omega)]
  rfl
 unfold J2D
 simp only [e0, e1, Option.bind_some]
 have hL : (List.replicate 256 (0 : Int)).length = 256 := List.length_replicate
 generalize List.replicate 256 (0 : Int) = L at hL
 obtain ⟨o, ho, hq⟩ := J0P (f := fun s : Int × List Int => J2b (IntKind.wrap .u8 r) b1 s.1 s.2) (fun s => (∃ j : Nat, s.1 = j ∧ j ≤ 256) ∧ s.2.length = 256) (fun s => (256 - s.1).toNat) (fun r => J1o r.2 ∧ r.1.length = 256) (fun s ⟨⟨j, hj, h4⟩, hl⟩ => by
  obtain ⟨j', l⟩ := s
  simp only at hj hl
  subst hj
  by_cases hlt : j < 256
  ·left
   have c1 : ((j : Nat) : Int) < (l.length : Int) := by omega
   have c2 : idx l (j : Int) = some (l[j]'(by omega)) := by rw [J52, List.getElem?_eq_getElem]
   exact ⟨⟨((j + 1 : Nat) : Int), l.set j (IntKind.wrap .u8 r)⟩, by simp only [J2b, c1, decide_true, if_true, c2, Option.bind_some, Int.toNat_natCast, J28 (show j < 1000000 by omega)], ⟨⟨j + 1, rfl, by omega⟩, by show (l.set j _).length = 256; simp [hl]⟩, by show ((256 : Int) - ((j + 1 : Nat) : Int)).toNat < ((256 : Int) - (j : Int)).toNat; omega⟩
  ·right
   have c1 : ¬ ((j : Nat) : Int) < (l.length : Int) := by omega
   have c2 : idx l (k : Int) = some (l[k]'(by omega)) := by rw [J52, List.getElem?_eq_getElem]
   exact ⟨(toStr (l.set k (IntKind.wrap .u8 y)), b3), by simp only [J2b, c1, decide_false, Bool.false_eq_true, if_false, J5t, e2, e3, c2, Option.bind_some, Option.map_some, Int.toNat_natCast], hb3, by simp [toStr, hl]⟩) (0, L) ⟨⟨0, rfl, by omega⟩, hL⟩
 exact ⟨o.1, o.2, ho, hq.1, hq.2⟩
end Go.Am
end
section
namespace Go.Am
set_option maxRecDepth 16000
def hb (c : Nat) : Nat := if c < 2147483648 then 2 * c else 2 * (c ^^^ P32) + 1
def hN : Nat → Nat → Nat
 | 0, c => c
 | j + 1, c => hN j (hb c)
end Go.Am
end
section
namespace Go.Am
set_option maxRecDepth 16000
theorem Jpy {α ρ : Type} {f : Int → Option (Int ⊕ ρ)} {l : List α} (p : α → Bool) (hit : Nat → ρ) (out : ρ) (hl : l.length < 1000000)
  (h1 : ∀ (k : Nat) (h : k < l.length), f (k : Int) = some (if p l[k] = true then .inr (hit k) else .inl ((k + 1 : Nat) : Int))) (h2 : f (l.length : Int) = some (.inr out)) :
  Ju f 0 = some (match l.findIdx? p with
   | some k => hit k
   | none => out) := by
 have key : ∀ (n k : Nat), k + n = l.length → Ju f (k : Int) = some (match (l.drop k).findIdx? p with
   | some j => hit (k + j)
   | none => out) := by
  intro n
  induction n with
  | zero =>
   intro k hk
   obtain rfl : k = l.length := by omega
   rw [J2A h2]
   simp
  | succ n ih =>
   intro k hk
   have hlt : k < l.length := by omega
   have e := h1 k hlt
   rw [List.drop_eq_getElem_cons hlt, List.findIdx?_cons]
   by_cases hp : p l[k] = true
   ·rw [if_pos hp] at e
    rw [J2A e, if_pos hp]
    rfl
   ·rw [if_neg hp] at e
    rw [J3q e, ih (k + 1) (by omega), if_neg hp]
    cases (l.drop (k + 1)).findIdx? p with
    | none => rfl
    | some j => simp only [Option.map_some]; congr 2; omega
 have := key l.length 0 (by omega)
 simpa using this
theorem Jrb {α ρ : Type} {f : Int → Option (Int ⊕ ρ)} {l : List α} (q : α → Bool) (bad out : ρ) (hl : l.length < 1000000)
  (h1 : ∀ (k : Nat) (h : k < l.length), f (k : Int) = some (if q l[k] = true then .inl ((k + 1 : Nat) : Int) else .inr bad)) (h2 : f (l.length : Int) = some (.inr out)) :
  Ju f 0 = some (if l.all q = true then out else bad) := by
 have := Jpy (f := f) (l := l) (fun x => !q x) (fun _ => bad) out hl (fun k h => by
  rw [h1 k h]
  cases q l[k] <;> rfl) h2
 rw [this]
 cases h : l.findIdx? (fun x => !q x) with
 | none =>
  rw [List.findIdx?_eq_none_iff] at h
  have : l.all q = true := List.all_eq_true.2 fun x hx => by simpa using h x hx
  rw [this]; rfl
 | some k =>
  obtain ⟨hk, h3, _⟩ := List.findIdx?_eq_some_iff_getElem.1 h
  have : l.all q ≠ true := fun h4 => by
   have := List.all_eq_true.1 h4 _ (List.getElem_mem hk)
   rw [this] at h3; cases h3
  rw [if_neg this]
end Go.Am
end
