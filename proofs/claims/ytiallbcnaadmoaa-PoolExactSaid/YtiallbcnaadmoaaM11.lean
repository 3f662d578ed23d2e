/-
  Parts of a proof.
-/
import Derived.Test.YtiallbcnaadmoaaM10
open Nat (reduceEqDiff reduceAdd reduceLT reduceMul)
set_option linter.unusedSimpArgs false
set_option linter.unusedVariables false
section
namespace Go.Am
set_option maxRecDepth 8000
set_option maxHeartbeats 4000000
set_option linter.unusedSimpArgs false
set_option linter.unusedVariables false
noncomputable section
variable (p : FuncId → Option (List AV → List Blk → Option Res))
def J6G  (r : Bool) : Option Res := some (.p (.b r), [])
def J73 (x3 : Int) (b0 : T_api_Pool) (o : (Int) ⊕ (Bool)) : Option Res := match o with
 | .inl s => rk (J6 p) J0S 0 [.bl 0, .td 1 [2], .sq (.keep [] J1o)] (X (J6 p) (.lp 1 [1, 3, 4] JW) ⟨[(1, .ptr 0 0), (3, .p (.i .i64 x3)), (4, .p (.i .i64 s))], [.box (List.map AV.p (J3 b0))]⟩)
 | .inr o => J6G o
def JjP (x3 x4 : Int) (b0 : T_api_Pool) (b1 : T_api_Frame) (o : (Int) ⊕ (((Int) ⊕ (Bool)))) : Option Res := match o with
 | .inl s => rk (J6 p) J0S 0 [.bl 2, .bl 1, .td 1 [1, 2, 3, 4], .sq (.keep [1, 3, 4] J4l), .lo 1 [1, 3, 4] JW, .bl 0, .td 1 [2], .sq (.keep [] J1o)] (X (J6 p) (.lp 2 [1, 3, 4, 5, 6] J2e) ⟨[(1, .ptr 0 0), (3, .p (.i .i64 x3)), (4, .p (.i .i64 x4)), (5, .ptr 1 0), (6, .p (.i .i64 s))], [.box (List.map AV.p (J3 b0)), .box (List.map AV.p (J7 b1))]⟩)
 | .inr o => (J73 p x3 b0) o
def J8X (x3 x4 : Int) (b0 : T_api_Pool) : Option (((Int) ⊕ (Bool))) :=
 some (.inl (IntKind.wrap .i64 (x4 + 1)))
theorem Jjr {x3 x4 : Int} {b0 : T_api_Pool} {o : ((Int) ⊕ (Bool))} (h : J8X x3 x4 b0 = some o) :
  rk (J6 p) J0S 0 [.lo 1 [1, 3, 4] JW, .bl 0, .td 1 [2], .sq (.keep [] J1o)] (X (J6 p) J4l ⟨[(1, .ptr 0 0), (3, .p (.i .i64 x3)), (4, .p (.i .i64 x4))], [.box (List.map AV.p (J3 b0))]⟩) = (J73 p x3 b0) o := by
 unfold J8X at h
 obtain rfl := sj h
 try simp only [↓Da, Ua, J4l, ↓reduceIte, reduceEqDiff, reduceAdd, reduceLT, reduceMul]
 rfl
def J4d (x3 x4 : Int) (b0 : T_api_Pool) (b1 : T_api_Frame) (x6 : Int) : Option (((Int) ⊕ (((Int) ⊕ (Bool))))) :=
 if (decide (x6 < x4)) then
  Option.bind (idx b0.Frames x6) fun y2 =>
  if ((y2.Page.ID : Int) == b1.Page.ID) then
   some (.inr (.inr false))
  else
   some (.inl (IntKind.wrap .i64 (x6 + 1)))
 else
  Option.map (fun o => .inr o) (J8X x3 x4 b0)
theorem Jd4 {x3 x4 : Int} {b0 : T_api_Pool} {b1 : T_api_Frame} {x6 : Int} {o : ((Int) ⊕ (((Int) ⊕ (Bool))))} (h : J4d x3 x4 b0 b1 x6 = some o) :
  rk (J6 p) J0S 0 [.lo 2 [1, 3, 4, 5, 6] J2e, .bl 2, .bl 1, .td 1 [1, 2, 3, 4], .sq (.keep [1, 3, 4] J4l), .lo 1 [1, 3, 4] JW, .bl 0, .td 1 [2], .sq (.keep [] J1o)] (X (J6 p) J2e ⟨[(1, .ptr 0 0), (3, .p (.i .i64 x3)), (4, .p (.i .i64 x4)), (5, .ptr 1 0), (6, .p (.i .i64 x6))], [.box (List.map AV.p (J3 b0)), .box (List.map AV.p (J7 b1))]⟩) = (JjP p x3 x4 b0 b1) o := by
 unfold J4d at h
 rcases Jc h with ⟨h1, h⟩ | ⟨h1, h⟩
 ·obtain ⟨y2, h3, h⟩ := bi h
  have f4 := J0f (r := J7) h3
  try simp only [Nf] at f4
  have f5 : sub (J7 y2) 0 1 = some ((r_i .i64) y2.Page.ID) := by
   have e0 := (J2w (JQ y2) (J2T y2.Page))
   exact e0
  try simp only [Nf] at f5
  have f6 : sub (J7 b1) 0 1 = some ((r_i .i64) b1.Page.ID) := by
   have e0 := (J2w (JQ b1) (J2T b1.Page))
   exact e0
  try simp only [Nf] at f6
  try simp only [↓Da, Ua, J2e, J5, J0, J2, J8, J4, *, ↓reduceIte, reduceEqDiff, reduceAdd, reduceLT, reduceMul]
  rcases Jc h with ⟨h7, h⟩ | ⟨h7, h⟩
  ·obtain rfl := sj h
   try simp only [↓Da, Ua, J2e, J5, J0, J2, J8, J4, J2o, *, ↓reduceIte, reduceEqDiff, reduceAdd, reduceLT, reduceMul]
   rfl
  ·obtain rfl := sj h
   try simp only [↓Da, Ua, J2e, J5, J0, J2, J8, J4, *, ↓reduceIte, reduceEqDiff, reduceAdd, reduceLT, reduceMul]
   rfl
 ·obtain ⟨o', h', rfl⟩ := mi h
  try simp only [↓Da, Ua, J2e, J5, J0, J2, J8, J4, *, ↓reduceIte, reduceEqDiff, reduceAdd, reduceLT, reduceMul]
  have e0 := Jjr p h'
  first | exact e0 | (simp only [*] at e0; exact e0)
def J6S (x3 x4 : Int) (b0 : T_api_Pool) (b1 : T_api_Frame) (s : Int) : Option (((Int) ⊕ (Bool))) :=
 JO (fun s => J4d x3 x4 b0 b1 s) s
theorem Jc2 {x3 x4 : Int} {b0 : T_api_Pool} {b1 : T_api_Frame} {s : Int} {o : ((Int) ⊕ (Bool))} (h : J6S x3 x4 b0 b1 s = some o) :
  rk (J6 p) J0S 0 [.bl 2, .bl 1, .td 1 [1, 2, 3, 4], .sq (.keep [1, 3, 4] J4l), .lo 1 [1, 3, 4] JW, .bl 0, .td 1 [2], .sq (.keep [] J1o)] (X (J6 p) (.lp 2 [1, 3, 4, 5, 6] J2e) ⟨[(1, .ptr 0 0), (3, .p (.i .i64 x3)), (4, .p (.i .i64 x4)), (5, .ptr 1 0), (6, .p (.i .i64 s))], [.box (List.map AV.p (J3 b0)), .box (List.map AV.p (J7 b1))]⟩) = (J73 p x3 b0) o := by
 have h0 : JO (fun s => J4d x3 x4 b0 b1 s) s = some o := h
 exact J0M (P := fun (s : Int) (o : ((Int) ⊕ (Bool))) => rk (J6 p) J0S 0 [.bl 2, .bl 1, .td 1 [1, 2, 3, 4], .sq (.keep [1, 3, 4] J4l), .lo 1 [1, 3, 4] JW, .bl 0, .td 1 [2], .sq (.keep [] J1o)] (X (J6 p) (.lp 2 [1, 3, 4, 5, 6] J2e) ⟨[(1, .ptr 0 0), (3, .p (.i .i64 x3)), (4, .p (.i .i64 x4)), (5, .ptr 1 0), (6, .p (.i .i64 s))], [.box (List.map AV.p (J3 b0)), .box (List.map AV.p (J7 b1))]⟩) = (J73 p x3 b0) o) (fun s r hs => by rw [J0w]; exact Jd4 p hs) (fun s s1 r hs ih => by rw [J0w]; exact (Jd4 p hs).trans ih) h0
def J8P  : Option (Bool) :=
 some true
theorem Jjj {B0 : List PV} {o : Bool} (h : J8P = some o) :
  rk (J6 p) J0S 0 [] (X (J6 p) J1o ⟨[], [.box (List.map AV.p B0)]⟩) = J6G o := by
 unfold J8P at h
 obtain rfl := sj h
 try simp only [↓Da, Ua, J1o, J2o, ↓reduceIte, reduceEqDiff, reduceAdd, reduceLT, reduceMul]
 rfl
def J4p (x3 : Int) (b0 : T_api_Pool) (x4 : Int) : Option (((Int) ⊕ (Bool))) :=
 if (decide (x4 < x3)) then
  Option.bind (idx b0.Frames x4) fun y2 =>
  Option.bind (J5D y2.Page) fun r5 =>
  if r5 then
   if y2.Dirty then
    if (decide (y2.Rec < 1)) then
     some (.inr false)
    else
     if (decide (y2.Rec > y2.Page.LSN)) then
      some (.inr false)
     else
      J6S x3 x4 b0 y2 0
   else
    if ((y2.Rec : Int) != 0) then
     some (.inr false)
    else
     J6S x3 x4 b0 y2 0
  else
   some (.inr false)
 else
  Option.map (fun o => .inr o) (J8P)
theorem Jdg {x3 : Int} {b0 : T_api_Pool} {x4 : Int} {o : ((Int) ⊕ (Bool))} (h : J4p x3 b0 x4 = some o) :
  rk (J6 p) J0S 0 [.lo 1 [1, 3, 4] JW, .bl 0, .td 1 [2], .sq (.keep [] J1o)] (X (J6 p) JW ⟨[(1, .ptr 0 0), (3, .p (.i .i64 x3)), (4, .p (.i .i64 x4))], [.box (List.map AV.p (J3 b0))]⟩) = (J73 p x3 b0) o := by
 unfold J4p at h
 rcases Jc h with ⟨h1, h⟩ | ⟨h1, h⟩
 ·obtain ⟨y2, h3, h⟩ := bi h
  have f4 := J0f (r := J7) h3
  try simp only [Nf] at f4
  obtain ⟨r5, h6, h⟩ := bi h
  have f7 := Jmo p h6
  try simp only [Nf] at f7
  try simp only [↓Da, Ua, JW, J5, J0, J2, J8, J4, *, ↓reduceIte, reduceEqDiff, reduceAdd, reduceLT, reduceMul]
  rcases Jc h with ⟨h8, h⟩ | ⟨h8, h⟩
  ·try simp only [↓Da, Ua, JW, J5, J0, J2, J8, J4, *, ↓reduceIte, reduceEqDiff, reduceAdd, reduceLT, reduceMul]
   rcases Jc h with ⟨h9, h⟩ | ⟨h9, h⟩
   ·try simp only [↓Da, Ua, JW, J5, J0, J2, J8, J4, *, ↓reduceIte, reduceEqDiff, reduceAdd, reduceLT, reduceMul]
    rcases Jc h with ⟨h10, h⟩ | ⟨h10, h⟩
    ·obtain rfl := sj h
     try simp only [↓Da, Ua, JW, J5, J0, J2, J8, J4, J2o, *, ↓reduceIte, reduceEqDiff, reduceAdd, reduceLT, reduceMul]
     rfl
    ·have f11 : sub (J7 y2) 1 1 = some ((r_i .i64) y2.Page.LSN) := by
      have e0 := (J2w (JQ y2) (J1p y2.Page))
      exact e0
     try simp only [Nf] at f11
     try simp only [↓Da, Ua, JW, J5, J0, J2, J8, J4, *, ↓reduceIte, reduceEqDiff, reduceAdd, reduceLT, reduceMul]
     rcases Jc h with ⟨h12, h⟩ | ⟨h12, h⟩
     ·obtain rfl := sj h
      try simp only [↓Da, Ua, JW, J5, J0, J2, J8, J4, J2o, *, ↓reduceIte, reduceEqDiff, reduceAdd, reduceLT, reduceMul]
      rfl
     ·try simp only [↓Da, Ua, JW, J5, J0, J2, J8, J4, *, ↓reduceIte, reduceEqDiff, reduceAdd, reduceLT, reduceMul]
      have e0 := Jc2 p h
      first | exact e0 | (simp only [*] at e0; exact e0)
   ·try simp only [↓Da, Ua, JW, J5, J0, J2, J8, J4, *, ↓reduceIte, reduceEqDiff, reduceAdd, reduceLT, reduceMul]
    rcases Jc h with ⟨h13, h⟩ | ⟨h13, h⟩
    ·obtain rfl := sj h
     try simp only [↓Da, Ua, JW, J5, J0, J2, J8, J4, J2o, *, ↓reduceIte, reduceEqDiff, reduceAdd, reduceLT, reduceMul]
     rfl
    ·try simp only [↓Da, Ua, JW, J5, J0, J2, J8, J4, *, ↓reduceIte, reduceEqDiff, reduceAdd, reduceLT, reduceMul]
     have e0 := Jc2 p h
     first | exact e0 | (simp only [*] at e0; exact e0)
  ·obtain rfl := sj h
   try simp only [↓Da, Ua, JW, J5, J0, J2, J8, J4, J2o, *, ↓reduceIte, reduceEqDiff, reduceAdd, reduceLT, reduceMul]
   rfl
 ·obtain ⟨o', h', rfl⟩ := mi h
  try simp only [↓Da, Ua, JW, J5, J0, J2, J8, J4, *, ↓reduceIte, reduceEqDiff, reduceAdd, reduceLT, reduceMul]
  have e0 := Jjj p (B0 := (J3 b0)) h'
  first | exact e0 | (simp only [*] at e0; exact e0)
def Jdq (x3 : Int) (b0 : T_api_Pool) (s : Int) : Option (Bool) :=
 JO (fun s => J4p x3 b0 s) s
theorem Jhn {x3 : Int} {b0 : T_api_Pool} {s : Int} {o : Bool} (h : Jdq x3 b0 s = some o) :
  rk (J6 p) J0S 0 [.bl 0, .td 1 [2], .sq (.keep [] J1o)] (X (J6 p) (.lp 1 [1, 3, 4] JW) ⟨[(1, .ptr 0 0), (3, .p (.i .i64 x3)), (4, .p (.i .i64 s))], [.box (List.map AV.p (J3 b0))]⟩) = J6G o := by
 have h0 : JO (fun s => J4p x3 b0 s) s = some o := h
 exact J0M (P := fun (s : Int) (o : Bool) => rk (J6 p) J0S 0 [.bl 0, .td 1 [2], .sq (.keep [] J1o)] (X (J6 p) (.lp 1 [1, 3, 4] JW) ⟨[(1, .ptr 0 0), (3, .p (.i .i64 x3)), (4, .p (.i .i64 s))], [.box (List.map AV.p (J3 b0))]⟩) = J6G o) (fun s r hs => by rw [J0w]; exact Jdg p hs) (fun s s1 r hs ih => by rw [J0w]; exact (Jdg p hs).trans ih) h0
def J0D (x0 : T_api_Pool) : Option (Bool) :=
 if (decide (x0.Size < 1)) then
  some false
 else
  if (decide (x0.Size > 64)) then
   some false
  else
   if (decide (((List.length x0.Frames : Nat) : Int) > x0.Size)) then
    some false
   else
    if (decide (x0.Hand < 0)) then
     some false
    else
     if (decide (x0.Hand > (Jai 0 (IntKind.wrap .i64 (((List.length x0.Frames : Nat) : Int) - 1))))) then
      some false
     else
      Jdq ((List.length x0.Frames : Nat) : Int) x0 0
theorem JhE {x0 : T_api_Pool} {o : Bool} (h : J0D x0 = some o) :
  rk (J6 p) J0S 0 [] (X (J6 p) J1m ⟨[(0, .data (J3 x0))], []⟩) = J6G o := by
 unfold J0D at h
 rcases Jc h with ⟨h1, h⟩ | ⟨h1, h⟩
 ·obtain rfl := sj h
  try simp only [↓Da, Ua, J1m, J5, J0, J2, J8, J4, J2o, *, ↓reduceIte, reduceEqDiff, reduceAdd, reduceLT, reduceMul]
  rfl
 ·try simp only [↓Da, Ua, J1m, J5, J0, J2, J8, J4, *, ↓reduceIte, reduceEqDiff, reduceAdd, reduceLT, reduceMul]
  rcases Jc h with ⟨h2, h⟩ | ⟨h2, h⟩
  ·obtain rfl := sj h
   try simp only [↓Da, Ua, J1m, J5, J0, J2, J8, J4, J2o, *, ↓reduceIte, reduceEqDiff, reduceAdd, reduceLT, reduceMul]
   rfl
  ·try simp only [↓Da, Ua, J1m, J5, J0, J2, J8, J4, *, ↓reduceIte, reduceEqDiff, reduceAdd, reduceLT, reduceMul]
   rcases Jc h with ⟨h3, h⟩ | ⟨h3, h⟩
   ·obtain rfl := sj h
    try simp only [↓Da, Ua, J1m, J5, J0, J2, J8, J4, J2o, *, ↓reduceIte, reduceEqDiff, reduceAdd, reduceLT, reduceMul]
    rfl
   ·try simp only [↓Da, Ua, J1m, J5, J0, J2, J8, J4, *, ↓reduceIte, reduceEqDiff, reduceAdd, reduceLT, reduceMul]
    rcases Jc h with ⟨h4, h⟩ | ⟨h4, h⟩
    ·obtain rfl := sj h
     try simp only [↓Da, Ua, J1m, J5, J0, J2, J8, J4, J2o, *, ↓reduceIte, reduceEqDiff, reduceAdd, reduceLT, reduceMul]
     rfl
    ·try simp only [↓Da, Ua, J1m, J5, J0, J2, J8, J4, *, ↓reduceIte, reduceEqDiff, reduceAdd, reduceLT, reduceMul]
     rcases Jc h with ⟨h5, h⟩ | ⟨h5, h⟩
     ·obtain rfl := sj h
      try simp only [↓Da, Ua, J1m, J5, J0, J2, J8, J4, J2o, *, ↓reduceIte, reduceEqDiff, reduceAdd, reduceLT, reduceMul]
      rfl
     ·try simp only [↓Da, Ua, J1m, J5, J0, J2, J8, J4, *, ↓reduceIte, reduceEqDiff, reduceAdd, reduceLT, reduceMul]
      have e0 := Jhn p h
      first | exact e0 | (simp only [*] at e0; exact e0)
theorem JmA {x0 : T_api_Pool} {o : Bool} (h : J0D x0 = some o) : AF (J6 p) J1n [.data (J3 x0)] [] = J6G o :=
 (J0h (J6 p) (Jmj p) rfl).trans (JhE p h)
theorem J4P {x0 : T_api_Pool} {o : Bool} (h : J0D x0 = some o) : ∀ ws new st, (Jl (AF (J6 p)) J1n ([.data (J3 x0)], ws) 0 new).run st = some ⟨.p (.b o), ws⟩ := Jy rfl (JmA p h) rfl
def J6F  (r : (List T_api_Dirty)) : Option Res := some (.p (.sl 3 (List.map Je r)), [])
def Jd8 (b0 : T_api_Pool) (w1 : Bool) (o : (Int × (List T_api_Dirty)) ⊕ ((List T_api_Dirty))) : Option Res := match o with
 | .inl s => rk (J6 p) J23 0 [.bl 0, .sq (.keep [3] J3D)] (X (J6 p) (.lp 2 [1, 3, 4] J15) ⟨[(1, .ptr 0 0), (3, .slr 1 0 (List.length s.2)), (4, .p (.i .i64 s.1))], [.box (List.map AV.p (J3 b0)), .arr w1 3 (List.map Je s.2)]⟩)
 | .inr o => J6F o
def J4k (x4 : Int) (b0 : T_api_Pool) (l1 : List T_api_Dirty) : Option (((Int × (List T_api_Dirty)) ⊕ ((List T_api_Dirty)))) :=
 some (.inl ((IntKind.wrap .i64 (x4 + 1)), l1))
theorem JaU {x4 : Int} {b0 : T_api_Pool} {l1 : List T_api_Dirty} {w1 : Bool} {o : ((Int × (List T_api_Dirty)) ⊕ ((List T_api_Dirty)))} (h : J4k x4 b0 l1 = some o) :
  rk (J6 p) J23 0 [.lo 2 [1, 3, 4] J15, .bl 0, .sq (.keep [3] J3D)] (X (J6 p) Jap ⟨[(1, .ptr 0 0), (3, .slr 1 0 (List.length l1)), (4, .p (.i .i64 x4))], [.box (List.map AV.p (J3 b0)), .arr w1 3 (List.map Je l1)]⟩) = (Jd8 p b0 w1) o := by
 unfold J4k at h
 obtain rfl := sj h
 try simp only [↓Da, Ua, Jap, ↓reduceIte, reduceEqDiff, reduceAdd, reduceLT, reduceMul]
 rfl
def J8T (l1 : List T_api_Dirty) : Option ((List T_api_Dirty)) :=
 some l1
theorem Jk7 {l1 : List T_api_Dirty} {B0 : List PV} {w1 : Bool} {o : (List T_api_Dirty)} (h : J8T l1 = some o) :
  rk (J6 p) J23 0 [] (X (J6 p) J3D ⟨[(3, .slr 1 0 (List.length l1))], [.box (List.map AV.p B0), .arr w1 3 (List.map Je l1)]⟩) = J6F o := by
 unfold J8T at h
 obtain rfl := sj h
 try simp only [↓Da, Ua, J3D, Jfh, ↓reduceIte, reduceEqDiff, reduceAdd, reduceLT, reduceMul]
 rfl
def J3F (b0 : T_api_Pool) (x4 : Int) (l1 : List T_api_Dirty) : Option (((Int × (List T_api_Dirty)) ⊕ ((List T_api_Dirty)))) :=
 if (decide (x4 < 64)) then
  Option.bind (J1C b0 x4) fun r2 =>
  if (decide (r2 ≥ 0)) then
   Option.bind (idx b0.Frames r2) fun y6 =>
   if y6.Dirty then
    Option.bind (Jah 24 l1 ([(⟨x4, y6.Rec, y6.Page.LSN⟩ : T_api_Dirty)] : List T_api_Dirty)) fun m11 =>
    J4k x4 b0 m11
   else
    J4k x4 b0 l1
  else
   J4k x4 b0 l1
 else
  Option.map (fun o => .inr o) (J8T l1)
theorem Jdn {b0 : T_api_Pool} {x4 : Int} {l1 : List T_api_Dirty} {w1 : Bool} {o : ((Int × (List T_api_Dirty)) ⊕ ((List T_api_Dirty)))} (h : J3F b0 x4 l1 = some o) :
  rk (J6 p) J23 0 [.lo 2 [1, 3, 4] J15, .bl 0, .sq (.keep [3] J3D)] (X (J6 p) J15 ⟨[(1, .ptr 0 0), (3, .slr 1 0 (List.length l1)), (4, .p (.i .i64 x4))], [.box (List.map AV.p (J3 b0)), .arr w1 3 (List.map Je l1)]⟩) = (Jd8 p b0 w1) o := by
 unfold J3F at h
 rcases Jc h with ⟨h1, h⟩ | ⟨h1, h⟩
 ·obtain ⟨r2, h3, h⟩ := bi h
  have f4 := J7T p h3
  try simp only [Nf] at f4
  try simp only [↓Da, Ua, J15, J5, J0, J2, J8, J00, J4, *, ↓reduceIte, reduceEqDiff, reduceAdd, reduceLT, reduceMul]
  rcases Jc h with ⟨h5, h⟩ | ⟨h5, h⟩
  ·obtain ⟨y6, h7, h⟩ := bi h
   have f8 := J0f (r := J7) h7
   try simp only [Nf] at f8
   try simp only [↓Da, Ua, J15, J5, J0, J2, J8, J00, J4, *, ↓reduceIte, reduceEqDiff, reduceAdd, reduceLT, reduceMul]
   rcases Jc h with ⟨h9, h⟩ | ⟨h9, h⟩
   ·have f10 : sub (J7 y6) 1 1 = some ((r_i .i64) y6.Page.LSN) := by
     have e0 := (J2w (JQ y6) (J1p y6.Page))
     exact e0
    try simp only [Nf] at f10
    obtain ⟨m11, h12, h⟩ := bi h
    have f13 : ∀ s : St, s.sto[1]? = some (.arr w1 3 (List.map Je l1)) → (J05 3 (.p (.sl 3 (List.map Je ([(⟨x4, y6.Rec, y6.Page.LSN⟩ : T_api_Dirty)] : List T_api_Dirty))))).run s = some (List.map Je ([(⟨x4, y6.Rec, y6.Page.LSN⟩ : T_api_Dirty)] : List T_api_Dirty)) → (J4S 3 24 (.slr 1 0 (List.length l1)) (.p (.sl 3 (List.map Je ([(⟨x4, y6.Rec, y6.Page.LSN⟩ : T_api_Dirty)] : List T_api_Dirty))))).run s = some ⟨.slr 1 0 (List.length m11), [(1, .arr w1 3 (List.map Je m11))]⟩ := by
     intro s e1 e2; have e3 := JdY h12 e1 e2; try simp only [List.length_cons, List.length_nil, Nat.zero_add] at e3
     exact e3
    try simp only [Nf] at f13
    try simp only [↓Da, Ua, J15, J5, J0, J2, J8, J00, J4, *, ↓reduceIte, reduceEqDiff, reduceAdd, reduceLT, reduceMul]
    have e0 := JaU p (w1 := w1) h
    first | exact e0 | (simp only [*] at e0; exact e0)
   ·try simp only [↓Da, Ua, J15, J5, J0, J2, J8, J00, J4, *, ↓reduceIte, reduceEqDiff, reduceAdd, reduceLT, reduceMul]
    have e0 := JaU p (w1 := w1) h
    first | exact e0 | (simp only [*] at e0; exact e0)
  ·try simp only [↓Da, Ua, J15, J5, J0, J2, J8, J00, J4, *, ↓reduceIte, reduceEqDiff, reduceAdd, reduceLT, reduceMul]
   have e0 := JaU p (w1 := w1) h
   first | exact e0 | (simp only [*] at e0; exact e0)
 ·obtain ⟨o', h', rfl⟩ := mi h
  try simp only [↓Da, Ua, J15, J5, J0, J2, J8, J00, J4, *, ↓reduceIte, reduceEqDiff, reduceAdd, reduceLT, reduceMul]
  have e0 := Jk7 p (B0 := (J3 b0)) (w1 := w1) h'
  first | exact e0 | (simp only [*] at e0; exact e0)
def JaL (b0 : T_api_Pool) (s : Int × (List T_api_Dirty)) : Option ((List T_api_Dirty)) :=
 JO (fun s => J3F b0 s.1 s.2) s
theorem Jhr {b0 : T_api_Pool} {w1 : Bool} {s : Int × (List T_api_Dirty)} {o : (List T_api_Dirty)} (h : JaL b0 s = some o) :
  rk (J6 p) J23 0 [.bl 0, .sq (.keep [3] J3D)] (X (J6 p) (.lp 2 [1, 3, 4] J15) ⟨[(1, .ptr 0 0), (3, .slr 1 0 (List.length s.2)), (4, .p (.i .i64 s.1))], [.box (List.map AV.p (J3 b0)), .arr w1 3 (List.map Je s.2)]⟩) = J6F o := by
 have h0 : JO (fun s => J3F b0 s.1 s.2) s = some o := h
 exact J0M (P := fun (s : Int × (List T_api_Dirty)) (o : (List T_api_Dirty)) => rk (J6 p) J23 0 [.bl 0, .sq (.keep [3] J3D)] (X (J6 p) (.lp 2 [1, 3, 4] J15) ⟨[(1, .ptr 0 0), (3, .slr 1 0 (List.length s.2)), (4, .p (.i .i64 s.1))], [.box (List.map AV.p (J3 b0)), .arr w1 3 (List.map Je s.2)]⟩) = J6F o) (fun s r hs => by rw [J0w]; exact Jdn p hs) (fun s s1 r hs ih => by rw [J0w]; exact (Jdn p hs).trans ih) h0
def J4M (x0 : T_api_Pool) : Option ((List T_api_Dirty)) :=
 Option.bind (J0D x0) fun r1 =>
 if r1 then
  JaL x0 (0, ([] : List T_api_Dirty))
 else
  some ([] : List T_api_Dirty)
theorem JhT {x0 : T_api_Pool} {o : (List T_api_Dirty)} (h : J4M x0 = some o) :
  rk (J6 p) J23 0 [] (X (J6 p) J5G ⟨[(0, .data (J3 x0))], []⟩) = J6F o := by
 unfold J4M at h
 obtain ⟨r1, h2, h⟩ := bi h
 have f3 := J4P p h2
 try simp only [Nf] at f3
 try simp only [↓Da, Ua, J5G, J5, J0, J2, J8, J00, J4, *, ↓reduceIte, reduceEqDiff, reduceAdd, reduceLT, reduceMul]
 rcases Jc h with ⟨h4, h⟩ | ⟨h4, h⟩
 ·try simp only [↓Da, Ua, J5G, J5, J0, J2, J8, J00, J4, *, ↓reduceIte, reduceEqDiff, reduceAdd, reduceLT, reduceMul]
  have e0 := Jhr p (w1 := true) h
  first | exact e0 | (simp only [*] at e0; exact e0)
 ·obtain rfl := sj h
  try simp only [↓Da, Ua, J5G, J5, J0, J2, J8, J00, J4, Jfh, *, ↓reduceIte, reduceEqDiff, reduceAdd, reduceLT, reduceMul]
  rfl
theorem JmH {x0 : T_api_Pool} {o : (List T_api_Dirty)} (h : J4M x0 = some o) : AF (J6 p) J5M [.data (J3 x0)] [] = J6F o :=
 (J0h (J6 p) (Jmv p) rfl).trans (JhT p h)
theorem Jmm {x0 : T_api_Pool} {o : (List T_api_Dirty)} (h : J4M x0 = some o) : ∀ ws new st, (Jl (AF (J6 p)) J5M ([.data (J3 x0)], ws) 0 new).run st = some ⟨.p (.sl 3 (List.map Je o)), ws⟩ := Jy rfl (JmH p h) rfl
def Ji7  (r : Int) : Option Res := some (.p (.i .i64 r), [])
def J1w (x0 : T_api_Pool) (x1 : Int) : Option (Int) :=
 Option.bind (J0J x0) fun r1 =>
 if r1 then
  Option.bind (J1M x0 x1) fun r5 =>
  some r5
 else
  some (-1)
theorem Jk6 {x0 : T_api_Pool} {x1 o : Int} (h : J1w x0 x1 = some o) :
  rk (J6 p) J8v 0 [] (X (J6 p) J7n ⟨[(0, .data (J3 x0)), (1, .p (.i .i64 x1))], []⟩) = Ji7 o := by
 unfold J1w at h
 obtain ⟨r1, h2, h⟩ := bi h
 have f3 := J5t p h2
 try simp only [Nf] at f3
 try simp only [↓Da, Ua, J7n, J5, J0, J2, J8, J4, *, ↓reduceIte, reduceEqDiff, reduceAdd, reduceLT, reduceMul]
 rcases Jc h with ⟨h4, h⟩ | ⟨h4, h⟩
 ·obtain ⟨r5, h6, h⟩ := bi h
  have f7 := J8z p h6
  try simp only [Nf] at f7
  obtain rfl := sj h
  try simp only [↓Da, Ua, J7n, J5, J0, J2, J8, J4, Jil, *, ↓reduceIte, reduceEqDiff, reduceAdd, reduceLT, reduceMul]
  rfl
 ·obtain rfl := sj h
  try simp only [↓Da, Ua, J7n, J5, J0, J2, J8, J4, Jil, *, ↓reduceIte, reduceEqDiff, reduceAdd, reduceLT, reduceMul]
  rfl
theorem JoC {x0 : T_api_Pool} {x1 o : Int} (h : J1w x0 x1 = some o) : AF (J6 p) J5k [.data (J3 x0), .p (.i .i64 x1)] [] = Ji7 o :=
 (J0h (J6 p) (Jov p) rfl).trans (Jk6 p h)
theorem Jdy {x0 : T_api_Pool} {x1 o : Int} (h : J1w x0 x1 = some o) : ∀ ws new st, (Jl (AF (J6 p)) J5k ([.data (J3 x0), .p (.i .i64 x1)], ws) 0 new).run st = some ⟨.p (.i .i64 o), ws⟩ := Jy rfl (JoC p h) rfl
def JgL  (r : Int) : Option Res := some (.p (.i .i64 r), [])
def J1c (x0 : T_api_Pool) (x1 : Int) : Option (Int) :=
 Option.bind (J0D x0) fun r1 =>
 if r1 then
  Option.bind (J1C x0 x1) fun r5 =>
  some r5
 else
  some (-1)
theorem Jip {x0 : T_api_Pool} {x1 o : Int} (h : J1c x0 x1 = some o) :
  rk (J6 p) J7w 0 [] (X (J6 p) J6l ⟨[(0, .data (J3 x0)), (1, .p (.i .i64 x1))], []⟩) = JgL o := by
 unfold J1c at h
 obtain ⟨r1, h2, h⟩ := bi h
 have f3 := J4P p h2
 try simp only [Nf] at f3
 try simp only [↓Da, Ua, J6l, J5, J0, J2, J8, J4, *, ↓reduceIte, reduceEqDiff, reduceAdd, reduceLT, reduceMul]
 rcases Jc h with ⟨h4, h⟩ | ⟨h4, h⟩
 ·obtain ⟨r5, h6, h⟩ := bi h
  have f7 := J7T p h6
  try simp only [Nf] at f7
  obtain rfl := sj h
  try simp only [↓Da, Ua, J6l, J5, J0, J2, J8, J4, JgD, *, ↓reduceIte, reduceEqDiff, reduceAdd, reduceLT, reduceMul]
  rfl
 ·obtain rfl := sj h
  try simp only [↓Da, Ua, J6l, J5, J0, J2, J8, J4, JgD, *, ↓reduceIte, reduceEqDiff, reduceAdd, reduceLT, reduceMul]
  rfl
theorem Jnp {x0 : T_api_Pool} {x1 o : Int} (h : J1c x0 x1 = some o) : AF (J6 p) J4r [.data (J3 x0), .p (.i .i64 x1)] [] = JgL o :=
 (J0h (J6 p) (Jo7 p) rfl).trans (Jip p h)
theorem JcO {x0 : T_api_Pool} {x1 o : Int} (h : J1c x0 x1 = some o) : ∀ ws new st, (Jl (AF (J6 p)) J4r ([.data (J3 x0), .p (.i .i64 x1)], ws) 0 new).run st = some ⟨.p (.i .i64 o), ws⟩ := Jy rfl (Jnp p h) rfl
def Jkn  (r : T_api_Pool) : Option Res := some (.data (J3 r), [])
def J61 (x0 : T_api_Pool) (x1 : Int) : Option (T_api_Pool) :=
 Option.bind (J1w x0 x1) fun r1 =>
 if (decide (r1 ≥ 0)) then
  Option.bind (idx x0.Frames r1) fun y5 =>
  Option.bind (J17 x0.Frames r1 (⟨y5.Page, y5.Dirty, y5.Rec, true⟩ : T_api_Frame)) fun r8 =>
  some (⟨x0.Size, r8, x0.Hand⟩ : T_api_Pool)
 else
  some x0
theorem JkT {x0 : T_api_Pool} {x1 : Int} {o : T_api_Pool} (h : J61 x0 x1 = some o) :
  rk (J6 p) J9G 0 [] (X (J6 p) J88 ⟨[(0, .data (J3 x0)), (1, .p (.i .i64 x1))], []⟩) = Jkn o := by
 unfold J61 at h
 obtain ⟨r1, h2, h⟩ := bi h
 have f3 := Jdy p h2
 try simp only [Nf] at f3
 try simp only [↓Da, Ua, J88, J5, J0, J2, J8, J4, *, ↓reduceIte, reduceEqDiff, reduceAdd, reduceLT, reduceMul]
 rcases Jc h with ⟨h4, h⟩ | ⟨h4, h⟩
 ·obtain ⟨y5, h6, h⟩ := bi h
  have f7 := J0f (r := J7) h6
  try simp only [Nf] at f7
  obtain ⟨r8, h9, h⟩ := bi h
  have f10 := J7I p h9
  try simp only [Nf] at f10
  obtain rfl := sj h
  try simp only [↓Da, Ua, J88, J5, J0, J2, J8, J4, Jjw, *, ↓reduceIte, reduceEqDiff, reduceAdd, reduceLT, reduceMul]
  rfl
 ·obtain rfl := sj h
  try simp only [↓Da, Ua, J88, J5, J0, J2, J8, J4, Jjw, *, ↓reduceIte, reduceEqDiff, reduceAdd, reduceLT, reduceMul]
  rfl
theorem JpX {x0 : T_api_Pool} {x1 : Int} {o : T_api_Pool} (h : J61 x0 x1 = some o) : AF (J6 p) J83 [.data (J3 x0), .p (.i .i64 x1)] [] = Jkn o :=
 (J0h (J6 p) (Jqn p) rfl).trans (JkT p h)
theorem JqA {x0 : T_api_Pool} {x1 : Int} {o : T_api_Pool} (h : J61 x0 x1 = some o) : ∀ ws new st, (Jl (AF (J6 p)) J83 ([.data (J3 x0), .p (.i .i64 x1)], ws) 0 new).run st = some ⟨.data (J3 o), ws⟩ := Jy rfl (JpX p h) rfl
def Ji0  (r : T_api_Pool) : Option Res := some (.data (J3 r), [])
def J5n (x0 : T_api_Pool) (x1 : Int) : Option (T_api_Pool) :=
 Option.bind (J1c x0 x1) fun r1 =>
 if (decide (r1 < 0)) then
  some x0
 else
  Option.bind (idx x0.Frames r1) fun y5 =>
  Option.bind (J3N x0 r1 (⟨y5.Page, y5.Dirty, y5.Rec, true⟩ : T_api_Frame)) fun r8 =>
  some r8
theorem JjL {x0 : T_api_Pool} {x1 : Int} {o : T_api_Pool} (h : J5n x0 x1 = some o) :
  rk (J6 p) J8x 0 [] (X (J6 p) J7k ⟨[(0, .data (J3 x0)), (1, .p (.i .i64 x1))], []⟩) = Ji0 o := by
 unfold J5n at h
 obtain ⟨r1, h2, h⟩ := bi h
 have f3 := JcO p h2
 try simp only [Nf] at f3
 try simp only [↓Da, Ua, J7k, J5, J0, J2, J8, J4, *, ↓reduceIte, reduceEqDiff, reduceAdd, reduceLT, reduceMul]
 rcases Jc h with ⟨h4, h⟩ | ⟨h4, h⟩
 ·obtain rfl := sj h
  try simp only [↓Da, Ua, J7k, J5, J0, J2, J8, J4, JhW, *, ↓reduceIte, reduceEqDiff, reduceAdd, reduceLT, reduceMul]
  rfl
 ·obtain ⟨y5, h6, h⟩ := bi h
  have f7 := J0f (r := J7) h6
  try simp only [Nf] at f7
  obtain ⟨r8, h9, h⟩ := bi h
  have f10 := Jbx p h9
  try simp only [Nf] at f10
  obtain rfl := sj h
  try simp only [↓Da, Ua, J7k, J5, J0, J2, J8, J4, JhW, *, ↓reduceIte, reduceEqDiff, reduceAdd, reduceLT, reduceMul]
  rfl
theorem JoR {x0 : T_api_Pool} {x1 : Int} {o : T_api_Pool} (h : J5n x0 x1 = some o) : AF (J6 p) J7j [.data (J3 x0), .p (.i .i64 x1)] [] = Ji0 o :=
 (J0h (J6 p) (Jpb p) rfl).trans (JjL p h)
theorem Jp8 {x0 : T_api_Pool} {x1 : Int} {o : T_api_Pool} (h : J5n x0 x1 = some o) : ∀ ws new st, (Jl (AF (J6 p)) J7j ([.data (J3 x0), .p (.i .i64 x1)], ws) 0 new).run st = some ⟨.data (J3 o), ws⟩ := Jy rfl (JoR p h) rfl
def JaS  (r : T_api_Pool × Int) : Option Res := some (.tup [.data (J3 r.1), .p (.i .i64 r.2)], [])
def J47 (b0_0 b0_2 : Int) (b1 : T_api_Pool) (l2 : List T_api_Frame) : Option (T_api_Pool × Int) :=
 some ((⟨b0_0, l2, b0_2⟩ : T_api_Pool), 0)
theorem Je1 {b0_0 b0_2 : Int} {b1 : T_api_Pool} {l2 : List T_api_Frame} {w2 : Bool} {o : T_api_Pool × Int} (h : J47 b0_0 b0_2 b1 l2 = some o) :
  rk (J6 p) J5p 0 [] (X (J6 p) Jbs ⟨[(2, .ptr 0 0), (4, .ptr 1 0)], [.box [.p (.i .i64 b0_0), .slr 2 0 (List.length l2), .p (.i .i64 b0_2)], .box (List.map AV.p (J3 b1)), .arr w2 37 (List.map J7 l2)]⟩) = JaS o := by
 unfold J47 at h
 obtain rfl := sj h
 try simp only [↓Da, Ua, Jbs, Ji, J0, J2, Jh, J4, Jav, ↓reduceIte, reduceEqDiff, reduceAdd, reduceLT, reduceMul]
 rfl
def J6c (b0_0 b0_2 : Int) (b1 : T_api_Pool) (l2 : List T_api_Frame) : Option (T_api_Pool × Int) :=
 if (decide (b0_2 ≥ (((List.length l2) : Nat) : Int))) then
  J47 b0_0 0 b1 l2
 else
  J47 b0_0 b0_2 b1 l2
theorem JdQ {b0_0 b0_2 : Int} {b1 : T_api_Pool} {l2 : List T_api_Frame} {w2 : Bool} {o : T_api_Pool × Int} (h : J6c b0_0 b0_2 b1 l2 = some o) :
  rk (J6 p) J5p 0 [] (X (J6 p) J9v ⟨[(2, .ptr 0 0), (4, .ptr 1 0)], [.box [.p (.i .i64 b0_0), .slr 2 0 (List.length l2), .p (.i .i64 b0_2)], .box (List.map AV.p (J3 b1)), .arr w2 37 (List.map J7 l2)]⟩) = JaS o := by
 unfold J6c at h
 rcases Jc h with ⟨h1, h⟩ | ⟨h1, h⟩
 ·try simp only [↓Da, Ua, J9v, Ji, J0, J2, Jh, J4, *, ↓reduceIte, reduceEqDiff, reduceAdd, reduceLT, reduceMul]
  have e0 := Je1 p (w2 := w2) h
  first | exact e0 | (simp only [*] at e0; exact e0)
 ·try simp only [↓Da, Ua, J9v, Ji, J0, J2, Jh, J4, *, ↓reduceIte, reduceEqDiff, reduceAdd, reduceLT, reduceMul]
  have e0 := Je1 p (w2 := w2) h
  first | exact e0 | (simp only [*] at e0; exact e0)
def J4i (x0 : T_api_Pool) (x1 : Int) : Option (T_api_Pool × Int) :=
 Option.bind (J0D x0) fun r1 =>
 if r1 then
  Option.bind (J1C x0 x1) fun r5 =>
  if (decide (r5 < 0)) then
   some ((⟨0, ([] : List T_api_Frame), 0⟩ : T_api_Pool), 18)
  else
   Option.bind (idx x0.Frames r5) fun y9 =>
   if y9.Dirty then
    some ((⟨0, ([] : List T_api_Frame), 0⟩ : T_api_Pool), 23)
   else
    Option.bind (J8L x0.Frames none (some r5)) fun m13 =>
    Option.bind (Jf2 424 m13) fun u17 =>
    Option.bind (J8L x0.Frames (some (IntKind.wrap .i64 (r5 + 1))) none) fun m19 =>
    Option.bind (Jah 424 m13 m19) fun m22 =>
    if (decide (r5 < x0.Hand)) then
     J6c x0.Size (IntKind.wrap .i64 (x0.Hand - 1)) (⟨0, ([] : List T_api_Frame), 0⟩ : T_api_Pool) m22
    else
     J6c x0.Size x0.Hand (⟨0, ([] : List T_api_Frame), 0⟩ : T_api_Pool) m22
 else
  some ((⟨0, ([] : List T_api_Frame), 0⟩ : T_api_Pool), 15)
theorem Jj4 {x0 : T_api_Pool} {x1 : Int} {o : T_api_Pool × Int} (h : J4i x0 x1 = some o) :
  rk (J6 p) J5p 0 [] (X (J6 p) J26 ⟨[(0, .data (J3 x0)), (1, .p (.i .i64 x1))], []⟩) = JaS o := by
 unfold J4i at h
 obtain ⟨r1, h2, h⟩ := bi h
 have f3 := J4P p h2
 try simp only [Nf, Ji, Jh] at f3
 try simp only [↓Da, Ua, Ra, J26, Ji, J0, J2, Jh, J4, *, ↓reduceIte, reduceEqDiff, reduceAdd, reduceLT, reduceMul, Nat.reduceBEq]
 rcases Jc h with ⟨h4, h⟩ | ⟨h4, h⟩
 ·obtain ⟨r5, h6, h⟩ := bi h
  have f7 := J7T p h6
  try simp only [Nf, Ji, Jh] at f7
  try simp only [↓Da, Ua, Ra, J26, Ji, J0, J2, Jh, J4, *, ↓reduceIte, reduceEqDiff, reduceAdd, reduceLT, reduceMul, Nat.reduceBEq]
  rcases Jc h with ⟨h8, h⟩ | ⟨h8, h⟩
  ·obtain rfl := sj h
   try simp only [↓Da, Ua, Ra, J26, Ji, J0, J2, Jh, J4, Jav, *, ↓reduceIte, reduceEqDiff, reduceAdd, reduceLT, reduceMul, Nat.reduceBEq]
   rfl
  ·obtain ⟨y9, h10, h⟩ := bi h
   have f11 := J0f (r := J7) h10
   try simp only [Nf, Ji, Jh] at f11
   try simp only [↓Da, Ua, Ra, J26, Ji, J0, J2, Jh, J4, *, ↓reduceIte, reduceEqDiff, reduceAdd, reduceLT, reduceMul, Nat.reduceBEq]
   rcases Jc h with ⟨h12, h⟩ | ⟨h12, h⟩
   ·obtain rfl := sj h
    try simp only [↓Da, Ua, Ra, J26, Ji, J0, J2, Jh, J4, Jav, *, ↓reduceIte, reduceEqDiff, reduceAdd, reduceLT, reduceMul, Nat.reduceBEq]
    rfl
   ·obtain ⟨m13, h14, h⟩ := bi h
    have f15 : J7U 37 (.p (.sl 37 (List.map J7 x0.Frames))) none (some (.p (.i .i64 r5))) = some (.p (.sl 37 (List.map J7 m13))) := Jgo (k := .i64) (lo := none) (hi := (some r5)) h14
    try simp only [Nf, Ji, Jh] at f15
    obtain ⟨u17, h18, h⟩ := bi h
    have f16 := (Jfc h18).1
    try simp only [Nf, Ji, Jh] at f16
    obtain ⟨m19, h20, h⟩ := bi h
    have f21 : J7U 37 (.p (.sl 37 (List.map J7 x0.Frames))) (some (.p (.i .i64 (IntKind.wrap .i64 (r5 + 1))))) none = some (.p (.sl 37 (List.map J7 m19))) := Jgo (k := .i64) (lo := (some (IntKind.wrap .i64 (r5 + 1)))) (hi := none) h20
    try simp only [Nf, Ji, Jh] at f21
    obtain ⟨m22, h23, h⟩ := bi h
    have f24 : ∀ s : St, s.sto[2]? = some (.arr true 37 (List.map J7 m13)) → (J05 37 (.p (.sl 37 (List.map J7 m19)))).run s = some (List.map J7 m19) → (J4S 37 424 (.slr 2 0 (List.length m13)) (.p (.sl 37 (List.map J7 m19)))).run s = some ⟨.slr 2 0 (List.length m22), [(2, .arr true 37 (List.map J7 m22))]⟩ := by
     intro s e1 e2; have e3 := JdY h23 e1 e2; try simp only [List.length_cons, List.length_nil, Nat.zero_add] at e3
     exact e3
    try simp only [Nf, Ji, Jh] at f24
    try simp only [↓Da, Ua, Ra, J26, Ji, J0, J2, Jh, J4, *, ↓reduceIte, reduceEqDiff, reduceAdd, reduceLT, reduceMul, Nat.reduceBEq]
    rcases Jc h with ⟨h25, h⟩ | ⟨h25, h⟩
    ·try simp only [↓Da, Ua, Ra, J26, Ji, J0, J2, Jh, J4, *, ↓reduceIte, reduceEqDiff, reduceAdd, reduceLT, reduceMul, Nat.reduceBEq]
     have e0 := JdQ p (w2 := true) h
     first | exact e0 | (simp only [*] at e0; exact e0)
    ·try simp only [↓Da, Ua, Ra, J26, Ji, J0, J2, Jh, J4, *, ↓reduceIte, reduceEqDiff, reduceAdd, reduceLT, reduceMul, Nat.reduceBEq]
     have e0 := JdQ p (w2 := true) h
     first | exact e0 | (simp only [*] at e0; exact e0)
 ·obtain rfl := sj h
  try simp only [↓Da, Ua, Ra, J26, Ji, J0, J2, Jh, J4, Jav, *, ↓reduceIte, reduceEqDiff, reduceAdd, reduceLT, reduceMul, Nat.reduceBEq]
  rfl
theorem JmV {x0 : T_api_Pool} {x1 : Int} {o : T_api_Pool × Int} (h : J4i x0 x1 = some o) : AF (J6 p) J7W [.data (J3 x0), .p (.i .i64 x1)] [] = JaS o :=
 (J0h (J6 p) (Jo5 p) rfl).trans (Jj4 p h)
theorem Joj {x0 : T_api_Pool} {x1 : Int} {o : T_api_Pool × Int} (h : J4i x0 x1 = some o) : ∀ ws new st, (Jl (AF (J6 p)) J7W ([.data (J3 x0), .p (.i .i64 x1)], ws) 0 new).run st = some ⟨.tup [.data (J3 o.1), .p (.i .i64 o.2)], ws⟩ := Jy rfl (JmV p h) rfl
def JbU  (r : T_api_Pool × Int) : Option Res := some (.tup [.data (J3 r.1), .p (.i .i64 r.2)], [])
def J4v (x8 : Int) (b0 b1 : T_api_Pool) (b2 : T_api_Frame) : Option (T_api_Pool × Int) :=
 Option.bind (J3N b0 x8 b2) fun r1 =>
 some (r1, 0)
theorem Jaw {x8 : Int} {b0 b1 : T_api_Pool} {b2 : T_api_Frame} {o : T_api_Pool × Int} (h : J4v x8 b0 b1 b2 = some o) :
  rk (J6 p) J5H 0 [] (X (J6 p) Jas ⟨[(3, .ptr 0 0), (6, .ptr 1 0), (8, .p (.i .i64 x8)), (9, .ptr 2 0)], [.box (List.map AV.p (J3 b0)), .box (List.map AV.p (J3 b1)), .box (List.map AV.p (J7 b2))]⟩) = JbU o := by
 unfold J4v at h
 obtain ⟨r1, h2, h⟩ := bi h
 have f3 := Jbx p h2
 try simp only [Nf] at f3
 obtain rfl := sj h
 try simp only [↓Da, Ua, Jas, J5, J0, J2, J8, J4, J8i, *, ↓reduceIte, reduceEqDiff, reduceAdd, reduceLT, reduceMul]
 rfl
def J3c (x0 : T_api_Pool) (x1 x2 : Int) : Option (T_api_Pool × Int) :=
 Option.bind (J0D x0) fun r1 =>
 if r1 then
  Option.bind (J1C x0 x1) fun r5 =>
  if (decide (r5 < 0)) then
   some ((⟨0, ([] : List T_api_Frame), 0⟩ : T_api_Pool), 18)
  else
   Option.bind (idx x0.Frames r5) fun y9 =>
   if (decide (x2 > y9.Page.LSN)) then
    some ((⟨0, ([] : List T_api_Frame), 0⟩ : T_api_Pool), 9)
   else
    if y9.Dirty then
     if ((y9.Page.LSN : Int) == x2) then
      J4v r5 x0 (⟨0, ([] : List T_api_Frame), 0⟩ : T_api_Pool) (⟨y9.Page, false, 0, y9.Used⟩ : T_api_Frame)
     else
      if (decide (y9.Rec ≤ x2)) then
       J4v r5 x0 (⟨0, ([] : List T_api_Frame), 0⟩ : T_api_Pool) (⟨y9.Page, y9.Dirty, (IntKind.wrap .i64 (x2 + 1)), y9.Used⟩ : T_api_Frame)
      else
       J4v r5 x0 (⟨0, ([] : List T_api_Frame), 0⟩ : T_api_Pool) y9
    else
     some (x0, 0)
 else
  some ((⟨0, ([] : List T_api_Frame), 0⟩ : T_api_Pool), 15)
theorem Jhg {x0 : T_api_Pool} {x1 x2 : Int} {o : T_api_Pool × Int} (h : J3c x0 x1 x2 = some o) :
  rk (J6 p) J5H 0 [] (X (J6 p) J0F ⟨[(0, .data (J3 x0)), (1, .p (.i .i64 x1)), (2, .p (.i .i64 x2))], []⟩) = JbU o := by
 unfold J3c at h
 obtain ⟨r1, h2, h⟩ := bi h
 have f3 := J4P p h2
 try simp only [Nf] at f3
 try simp only [↓Da, Ua, J0F, J5, J0, J2, J8, J4, *, ↓reduceIte, reduceEqDiff, reduceAdd, reduceLT, reduceMul]
 rcases Jc h with ⟨h4, h⟩ | ⟨h4, h⟩
 ·obtain ⟨r5, h6, h⟩ := bi h
  have f7 := J7T p h6
  try simp only [Nf] at f7
  try simp only [↓Da, Ua, J0F, J5, J0, J2, J8, J4, *, ↓reduceIte, reduceEqDiff, reduceAdd, reduceLT, reduceMul]
  rcases Jc h with ⟨h8, h⟩ | ⟨h8, h⟩
  ·obtain rfl := sj h
   try simp only [↓Da, Ua, J0F, J5, J0, J2, J8, J4, J8i, *, ↓reduceIte, reduceEqDiff, reduceAdd, reduceLT, reduceMul]
   rfl
  ·obtain ⟨y9, h10, h⟩ := bi h
   have f11 := J0f (r := J7) h10
   try simp only [Nf] at f11
   have f12 : sub (J7 y9) 1 1 = some ((r_i .i64) y9.Page.LSN) := by
    have e0 := (J2w (JQ y9) (J1p y9.Page))
    exact e0
   try simp only [Nf] at f12
   try simp only [↓Da, Ua, J0F, J5, J0, J2, J8, J4, *, ↓reduceIte, reduceEqDiff, reduceAdd, reduceLT, reduceMul]
   rcases Jc h with ⟨h13, h⟩ | ⟨h13, h⟩
   ·obtain rfl := sj h
    try simp only [↓Da, Ua, J0F, J5, J0, J2, J8, J4, J8i, *, ↓reduceIte, reduceEqDiff, reduceAdd, reduceLT, reduceMul]
    rfl
   ·try simp only [↓Da, Ua, J0F, J5, J0, J2, J8, J4, *, ↓reduceIte, reduceEqDiff, reduceAdd, reduceLT, reduceMul]
    rcases Jc h with ⟨h14, h⟩ | ⟨h14, h⟩
    ·have f15 : sub (J7 y9) 1 1 = some ((r_i .i64) y9.Page.LSN) := by
      have e0 := (J2w (JQ y9) (J1p y9.Page))
      exact e0
     try simp only [Nf] at f15
     try simp only [↓Da, Ua, J0F, J5, J0, J2, J8, J4, *, ↓reduceIte, reduceEqDiff, reduceAdd, reduceLT, reduceMul]
     rcases Jc h with ⟨h16, h⟩ | ⟨h16, h⟩
     ·try simp only [↓Da, Ua, J0F, J5, J0, J2, J8, J4, *, ↓reduceIte, reduceEqDiff, reduceAdd, reduceLT, reduceMul]
      have e0 := Jaw p h
      first | exact e0 | (simp only [*] at e0; exact e0)
     ·try simp only [↓Da, Ua, J0F, J5, J0, J2, J8, J4, *, ↓reduceIte, reduceEqDiff, reduceAdd, reduceLT, reduceMul]
      rcases Jc h with ⟨h17, h⟩ | ⟨h17, h⟩
      ·try simp only [↓Da, Ua, J0F, J5, J0, J2, J8, J4, *, ↓reduceIte, reduceEqDiff, reduceAdd, reduceLT, reduceMul]
       have e0 := Jaw p h
       first | exact e0 | (simp only [*] at e0; exact e0)
      ·try simp only [↓Da, Ua, J0F, J5, J0, J2, J8, J4, *, ↓reduceIte, reduceEqDiff, reduceAdd, reduceLT, reduceMul]
       have e0 := Jaw p h
       first | exact e0 | (simp only [*] at e0; exact e0)
    ·obtain rfl := sj h
     try simp only [↓Da, Ua, J0F, J5, J0, J2, J8, J4, J8i, *, ↓reduceIte, reduceEqDiff, reduceAdd, reduceLT, reduceMul]
     rfl
 ·obtain rfl := sj h
  try simp only [↓Da, Ua, J0F, J5, J0, J2, J8, J4, J8i, *, ↓reduceIte, reduceEqDiff, reduceAdd, reduceLT, reduceMul]
  rfl
theorem JmE {x0 : T_api_Pool} {x1 x2 : Int} {o : T_api_Pool × Int} (h : J3c x0 x1 x2 = some o) : AF (J6 p) J4O [.data (J3 x0), .p (.i .i64 x1), .p (.i .i64 x2)] [] = JbU o :=
 (J0h (J6 p) (Jml p) rfl).trans (Jhg p h)
theorem Jfi {x0 : T_api_Pool} {x1 x2 : Int} {o : T_api_Pool × Int} (h : J3c x0 x1 x2 = some o) : ∀ ws new st, (Jl (AF (J6 p)) J4O ([.data (J3 x0), .p (.i .i64 x1), .p (.i .i64 x2)], ws) 0 new).run st = some ⟨.tup [.data (J3 o.1), .p (.i .i64 o.2)], ws⟩ := Jy rfl (JmE p h) rfl
def J6H  (r : T_api_Pool × Int × Int) : Option Res := some (.tup [.data (J3 r.1), .p (.i .i64 r.2.1), .p (.i .i64 r.2.2)], [])
def Jd9 (b0_0 : Int) (b1 : T_api_Pool) (o : (Int × (List T_api_Frame)) ⊕ (T_api_Pool × Int × Int)) : Option Res := match o with
 | .inl s => rk (J6 p) J2p 0 [.bl 1, .sq (.keep [1, 2] J48)] (X (J6 p) (.lp 3 [1, 2] J2V) ⟨[(1, .ptr 0 0), (2, .ptr 1 0)], [.box [.p (.i .i64 b0_0), .slr 2 0 (List.length s.2), .p (.i .i64 s.1)], .box (List.map AV.p (J3 b1)), .arr true 37 (List.map J7 s.2)]⟩)
 | .inr o => J6H o
def J5y (b0_0 b0_2 : Int) (b1 : T_api_Pool) (l2 : List T_api_Frame) : Option (T_api_Pool × Int × Int) :=
 Option.bind (idx l2 b0_2) fun y1 =>
 some ((⟨b0_0, l2, b0_2⟩ : T_api_Pool), y1.Page.ID, 0)
theorem JjZ {b0_0 b0_2 : Int} {b1 : T_api_Pool} {l2 : List T_api_Frame} {w2 : Bool} {o : T_api_Pool × Int × Int} (h : J5y b0_0 b0_2 b1 l2 = some o) :
  rk (J6 p) J2p 0 [] (X (J6 p) J48 ⟨[(1, .ptr 0 0), (2, .ptr 1 0)], [.box [.p (.i .i64 b0_0), .slr 2 0 (List.length l2), .p (.i .i64 b0_2)], .box (List.map AV.p (J3 b1)), .arr w2 37 (List.map J7 l2)]⟩) = J6H o := by
 unfold J5y at h
 obtain ⟨y1, h2, h⟩ := bi h
 have f3 := JcG (r := J7) h2
 try simp only [Nf, Ji, Jh] at f3
 have f4 : (0 ≤ (b0_2 : Int) ∧ (b0_2 : Int) < (((List.length l2) : Nat) : Int)) = True := eq_true (by have e0 := Je7 h2; (try simp only [List.length_cons, List.length_nil, Nat.zero_add] at e0); omega)
 have f5 : sub (J7 y1) 0 1 = some ((r_i .i64) y1.Page.ID) := by
  have e0 := (J2w (JQ y1) (J2T y1.Page))
  exact e0
 try simp only [Nf, Ji, Jh] at f5
 obtain rfl := sj h
 try simp only [↓Da, Ua, Ra, J48, Ji, J0, J2, Jh, J4, JbK, *, ↓reduceIte, reduceEqDiff, reduceAdd, reduceLT, reduceMul, Nat.reduceBEq]
 rfl
def J1G (b0_0 : Int) (b1 : T_api_Pool) (b0_2 : Int) (l2 : List T_api_Frame) : Option (((Int × (List T_api_Frame)) ⊕ (T_api_Pool × Int × Int))) :=
 Option.bind (idx l2 b0_2) fun y1 =>
 if y1.Used then
  Option.bind (some (List.set l2 (Int.toNat b0_2) (⟨y1.Page, y1.Dirty, y1.Rec, false⟩ : T_api_Frame))) fun m6 =>
  Option.bind (Jbm (IntKind.wrap .i64 (b0_2 + 1)) (((List.length l2) : Nat) : Int)) fun q10 =>
  some (.inl (q10, m6))
 else
  Option.map (fun o => .inr o) (J5y b0_0 b0_2 b1 l2)
theorem Jd5 {b0_0 : Int} {b1 : T_api_Pool} {b0_2 : Int} {l2 : List T_api_Frame} {o : ((Int × (List T_api_Frame)) ⊕ (T_api_Pool × Int × Int))} (h : J1G b0_0 b1 b0_2 l2 = some o) :
  rk (J6 p) J2p 0 [.lo 3 [1, 2] J2V, .bl 1, .sq (.keep [1, 2] J48)] (X (J6 p) J2V ⟨[(1, .ptr 0 0), (2, .ptr 1 0)], [.box [.p (.i .i64 b0_0), .slr 2 0 (List.length l2), .p (.i .i64 b0_2)], .box (List.map AV.p (J3 b1)), .arr true 37 (List.map J7 l2)]⟩) = (Jd9 p b0_0 b1) o := by
 unfold J1G at h
 obtain ⟨y1, h2, h⟩ := bi h
 have f3 := JcG (r := J7) h2
 try simp only [Nf, Ji, Jh] at f3
 have f4 : (0 ≤ (b0_2 : Int) ∧ (b0_2 : Int) < (((List.length l2) : Nat) : Int)) = True := eq_true (by have e0 := Je7 h2; (try simp only [List.length_cons, List.length_nil, Nat.zero_add] at e0); omega)
 try simp only [↓Da, Ua, J2V, Ji, J0, J2, Jh, J4, *, ↓reduceIte, reduceEqDiff, reduceAdd, reduceLT, reduceMul]
 rcases Jc h with ⟨h5, h⟩ | ⟨h5, h⟩
 ·obtain ⟨m6, h7, h⟩ := bi h
  have f8 : List.set (List.map J7 l2) (Int.toNat b0_2) (J7 (⟨y1.Page, y1.Dirty, y1.Rec, false⟩ : T_api_Frame)) = List.map J7 m6 := by
   rw [← Option.some.inj h7, List.map_set]
  try simp only [Nf, Ji, Jh] at f8
  have g9 : List.length m6 = List.length l2 := by rw [← Option.some.inj h7, List.length_set]
  obtain ⟨q10, h11, h⟩ := bi h
  obtain rfl := sj h
  try simp only [↓Da, Ua, J2V, Ji, J0, J2, Jh, J4, *, ↓reduceIte, reduceEqDiff, reduceAdd, reduceLT, reduceMul]
  try simp only [Jd9, g9]
  try rfl
 ·obtain ⟨o', h', rfl⟩ := mi h
  try simp only [↓Da, Ua, J2V, Ji, J0, J2, Jh, J4, *, ↓reduceIte, reduceEqDiff, reduceAdd, reduceLT, reduceMul]
  have e0 := JjZ p (w2 := true) h'
  first | exact e0 | (simp only [*] at e0; exact e0)
def J4o (b0_0 : Int) (b1 : T_api_Pool) (s : Int × (List T_api_Frame)) : Option (T_api_Pool × Int × Int) :=
 JO (fun s => J1G b0_0 b1 s.1 s.2) s
theorem JhM {b0_0 : Int} {b1 : T_api_Pool} {s : Int × (List T_api_Frame)} {o : T_api_Pool × Int × Int} (h : J4o b0_0 b1 s = some o) :
  rk (J6 p) J2p 0 [.bl 1, .sq (.keep [1, 2] J48)] (X (J6 p) (.lp 3 [1, 2] J2V) ⟨[(1, .ptr 0 0), (2, .ptr 1 0)], [.box [.p (.i .i64 b0_0), .slr 2 0 (List.length s.2), .p (.i .i64 s.1)], .box (List.map AV.p (J3 b1)), .arr true 37 (List.map J7 s.2)]⟩) = J6H o := by
 have h0 : JO (fun s => J1G b0_0 b1 s.1 s.2) s = some o := h
 exact J0M (P := fun (s : Int × (List T_api_Frame)) (o : T_api_Pool × Int × Int) => rk (J6 p) J2p 0 [.bl 1, .sq (.keep [1, 2] J48)] (X (J6 p) (.lp 3 [1, 2] J2V) ⟨[(1, .ptr 0 0), (2, .ptr 1 0)], [.box [.p (.i .i64 b0_0), .slr 2 0 (List.length s.2), .p (.i .i64 s.1)], .box (List.map AV.p (J3 b1)), .arr true 37 (List.map J7 s.2)]⟩) = J6H o) (fun s r hs => by rw [J0w]; exact Jd5 p hs) (fun s s1 r hs ih => by rw [J0w]; exact (Jd5 p hs).trans ih) h0
def J1z (x0 : T_api_Pool) : Option (T_api_Pool × Int × Int) :=
 Option.bind (J0J x0) fun r1 =>
 if r1 then
  if ((((List.length x0.Frames : Nat) : Int) : Int) == 0) then
   some ((⟨0, ([] : List T_api_Frame), 0⟩ : T_api_Pool), 0, 18)
  else
   Option.bind (J0j x0.Frames) fun r6 =>
   J4o x0.Size (⟨0, ([] : List T_api_Frame), 0⟩ : T_api_Pool) (x0.Hand, r6)
 else
  some ((⟨0, ([] : List T_api_Frame), 0⟩ : T_api_Pool), 0, 15)
theorem Jhi {x0 : T_api_Pool} {o : T_api_Pool × Int × Int} (h : J1z x0 = some o) :
  rk (J6 p) J2p 0 [] (X (J6 p) J3V ⟨[(0, .data (J3 x0))], []⟩) = J6H o := by
 unfold J1z at h
 obtain ⟨r1, h2, h⟩ := bi h
 have f3 := J5t p h2
 try simp only [Nf, Ji, Jh] at f3
 try simp only [↓Da, Ua, J3V, Ji, J0, J2, Jh, J4, *, ↓reduceIte, reduceEqDiff, reduceAdd, reduceLT, reduceMul]
 rcases Jc h with ⟨h4, h⟩ | ⟨h4, h⟩
 ·try simp only [↓Da, Ua, J3V, Ji, J0, J2, Jh, J4, *, ↓reduceIte, reduceEqDiff, reduceAdd, reduceLT, reduceMul]
  rcases Jc h with ⟨h5, h⟩ | ⟨h5, h⟩
  ·have h5n : ((((List.length x0.Frames : Nat) : Int) : Int) != 0) = false := by rw [bne, h5]; rfl
   obtain rfl := sj h
   try simp only [↓Da, Ua, J3V, Ji, J0, J2, Jh, J4, JbK, *, ↓reduceIte, reduceEqDiff, reduceAdd, reduceLT, reduceMul]
   rfl
  ·have h5n : ((((List.length x0.Frames : Nat) : Int) : Int) != 0) = true := by rw [bne, h5]; rfl
   obtain ⟨r6, h7, h⟩ := bi h
   have f8 : ∀ ws new s, (Jl (AF (J6 p)) JT ([.p (.sl 37 (List.map J7 x0.Frames))], ws) 1 new).run s = some ⟨.slr new 0 (List.length r6), ws ++ [(new, .arr true 37 (List.map J7 r6))]⟩ := Jew rfl (J3w p h7)
   try simp only [Nf, Ji, Jh] at f8
   try simp only [↓Da, Ua, J3V, Ji, J0, J2, Jh, J4, *, ↓reduceIte, reduceEqDiff, reduceAdd, reduceLT, reduceMul]
   have e0 := JhM p h
   first | exact e0 | (simp only [*] at e0; exact e0)
 ·obtain rfl := sj h
  try simp only [↓Da, Ua, J3V, Ji, J0, J2, Jh, J4, JbK, *, ↓reduceIte, reduceEqDiff, reduceAdd, reduceLT, reduceMul]
  rfl
theorem Jmd {x0 : T_api_Pool} {o : T_api_Pool × Int × Int} (h : J1z x0 = some o) : AF (J6 p) J5J [.data (J3 x0)] [] = J6H o :=
 (J0h (J6 p) (Jmh p) rfl).trans (Jhi p h)
theorem Jft {x0 : T_api_Pool} {o : T_api_Pool × Int × Int} (h : J1z x0 = some o) : ∀ ws new st, (Jl (AF (J6 p)) J5J ([.data (J3 x0)], ws) 0 new).run st = some ⟨.tup [.data (J3 o.1), .p (.i .i64 o.2.1), .p (.i .i64 o.2.2)], ws⟩ := Jy rfl (Jmd p h) rfl
def J6e  (r : T_api_Pool × Int × Int) : Option Res := some (.tup [.data (J3 r.1), .p (.i .i64 r.2.1), .p (.i .i64 r.2.2)], [])
def Jj3 (b1 : T_api_Pool) (o : (T_api_Pool) ⊕ (T_api_Pool × Int × Int)) : Option Res := match o with
 | .inl s => rk (J6 p) J2a 0 [.bl 0, .td 2 [1, 2, 3, 4], .sq (.keep [1, 2] J40)] (X (J6 p) (.lp 2 [1, 2] J2m) ⟨[(1, .ptr 0 0), (2, .ptr 1 0)], [.box (List.map AV.p (J3 s)), .box (List.map AV.p (J3 b1))]⟩)
 | .inr o => J6e o
def J6r (b0 b1 : T_api_Pool) : Option (T_api_Pool × Int × Int) :=
 Option.bind (idx b0.Frames b0.Hand) fun y1 =>
 some (b0, y1.Page.ID, 0)
theorem Jio {b0 b1 : T_api_Pool} {o : T_api_Pool × Int × Int} (h : J6r b0 b1 = some o) :
  rk (J6 p) J2a 0 [] (X (J6 p) J40 ⟨[(1, .ptr 0 0), (2, .ptr 1 0)], [.box (List.map AV.p (J3 b0)), .box (List.map AV.p (J3 b1))]⟩) = J6e o := by
 unfold J6r at h
 obtain ⟨y1, h2, h⟩ := bi h
 have f3 := J0f (r := J7) h2
 try simp only [Nf] at f3
 have f4 : sub (J7 y1) 0 1 = some ((r_i .i64) y1.Page.ID) := by
  have e0 := (J2w (JQ y1) (J2T y1.Page))
  exact e0
 try simp only [Nf] at f4
 obtain rfl := sj h
 try simp only [↓Da, Ua, Ra, J40, J5, J0, J2, J8, J4, Jbr, *, ↓reduceIte, reduceEqDiff, reduceAdd, reduceLT, reduceMul, Nat.reduceBEq]
 rfl
def J3Z (b1 b0 : T_api_Pool) : Option (((T_api_Pool) ⊕ (T_api_Pool × Int × Int))) :=
 Option.bind (idx b0.Frames b0.Hand) fun y1 =>
 if y1.Used then
  Option.bind (J3N b0 b0.Hand (⟨y1.Page, y1.Dirty, y1.Rec, false⟩ : T_api_Frame)) fun r5 =>
  Option.bind (Jbm (IntKind.wrap .i64 (r5.Hand + 1)) ((List.length r5.Frames : Nat) : Int)) fun q8 =>
  some (.inl (⟨r5.Size, r5.Frames, q8⟩ : T_api_Pool))
 else
  Option.map (fun o => .inr o) (J6r b0 b1)
theorem JcD {b1 b0 : T_api_Pool} {o : ((T_api_Pool) ⊕ (T_api_Pool × Int × Int))} (h : J3Z b1 b0 = some o) :
  rk (J6 p) J2a 0 [.lo 2 [1, 2] J2m, .bl 0, .td 2 [1, 2, 3, 4], .sq (.keep [1, 2] J40)] (X (J6 p) J2m ⟨[(1, .ptr 0 0), (2, .ptr 1 0)], [.box (List.map AV.p (J3 b0)), .box (List.map AV.p (J3 b1))]⟩) = (Jj3 p b1) o := by
 unfold J3Z at h
 obtain ⟨y1, h2, h⟩ := bi h
 have f3 := J0f (r := J7) h2
 try simp only [Nf] at f3
 try simp only [↓Da, Ua, J2m, J5, J0, J2, J8, J4, *, ↓reduceIte, reduceEqDiff, reduceAdd, reduceLT, reduceMul]
 rcases Jc h with ⟨h4, h⟩ | ⟨h4, h⟩
 ·obtain ⟨r5, h6, h⟩ := bi h
  have f7 := Jbx p h6
  try simp only [Nf] at f7
  obtain ⟨q8, h9, h⟩ := bi h
  obtain rfl := sj h
  try simp only [↓Da, Ua, J2m, J5, J0, J2, J8, J4, *, ↓reduceIte, reduceEqDiff, reduceAdd, reduceLT, reduceMul]
  rfl
 ·obtain ⟨o', h', rfl⟩ := mi h
  try simp only [↓Da, Ua, J2m, J5, J0, J2, J8, J4, *, ↓reduceIte, reduceEqDiff, reduceAdd, reduceLT, reduceMul]
  have e0 := Jio p h'
  first | exact e0 | (simp only [*] at e0; exact e0)
def J81 (b1 s : T_api_Pool) : Option (T_api_Pool × Int × Int) :=
 JO (fun s => J3Z b1 s) s
theorem JfY {b1 s : T_api_Pool} {o : T_api_Pool × Int × Int} (h : J81 b1 s = some o) :
  rk (J6 p) J2a 0 [.bl 0, .td 2 [1, 2, 3, 4], .sq (.keep [1, 2] J40)] (X (J6 p) (.lp 2 [1, 2] J2m) ⟨[(1, .ptr 0 0), (2, .ptr 1 0)], [.box (List.map AV.p (J3 s)), .box (List.map AV.p (J3 b1))]⟩) = J6e o := by
 have h0 : JO (fun s => J3Z b1 s) s = some o := h
 exact J0M (P := fun (s : T_api_Pool) (o : T_api_Pool × Int × Int) => rk (J6 p) J2a 0 [.bl 0, .td 2 [1, 2, 3, 4], .sq (.keep [1, 2] J40)] (X (J6 p) (.lp 2 [1, 2] J2m) ⟨[(1, .ptr 0 0), (2, .ptr 1 0)], [.box (List.map AV.p (J3 s)), .box (List.map AV.p (J3 b1))]⟩) = J6e o) (fun s r hs => by rw [J0w]; exact JcD p hs) (fun s s1 r hs ih => by rw [J0w]; exact (JcD p hs).trans ih) h0
def J2A (x0 : T_api_Pool) : Option (T_api_Pool × Int × Int) :=
 Option.bind (J0D x0) fun r1 =>
 if r1 then
  if ((((List.length x0.Frames : Nat) : Int) : Int) == 0) then
   some ((⟨0, ([] : List T_api_Frame), 0⟩ : T_api_Pool), 0, 18)
  else
   J81 (⟨0, ([] : List T_api_Frame), 0⟩ : T_api_Pool) x0
 else
  some ((⟨0, ([] : List T_api_Frame), 0⟩ : T_api_Pool), 0, 15)
theorem JgN {x0 : T_api_Pool} {o : T_api_Pool × Int × Int} (h : J2A x0 = some o) :
  rk (J6 p) J2a 0 [] (X (J6 p) J3f ⟨[(0, .data (J3 x0))], []⟩) = J6e o := by
 unfold J2A at h
 obtain ⟨r1, h2, h⟩ := bi h
 have f3 := J4P p h2
 try simp only [Nf] at f3
 try simp only [↓Da, Ua, J3f, J5, J0, J2, J8, J4, *, ↓reduceIte, reduceEqDiff, reduceAdd, reduceLT, reduceMul]
 rcases Jc h with ⟨h4, h⟩ | ⟨h4, h⟩
 ·try simp only [↓Da, Ua, J3f, J5, J0, J2, J8, J4, *, ↓reduceIte, reduceEqDiff, reduceAdd, reduceLT, reduceMul]
  rcases Jc h with ⟨h5, h⟩ | ⟨h5, h⟩
  ·have h5n : ((((List.length x0.Frames : Nat) : Int) : Int) != 0) = false := by rw [bne, h5]; rfl
   obtain rfl := sj h
   try simp only [↓Da, Ua, J3f, J5, J0, J2, J8, J4, Jbr, *, ↓reduceIte, reduceEqDiff, reduceAdd, reduceLT, reduceMul]
   rfl
  ·have h5n : ((((List.length x0.Frames : Nat) : Int) : Int) != 0) = true := by rw [bne, h5]; rfl
   try simp only [↓Da, Ua, J3f, J5, J0, J2, J8, J4, *, ↓reduceIte, reduceEqDiff, reduceAdd, reduceLT, reduceMul]
   have e0 := JfY p h
   first | exact e0 | (simp only [*] at e0; exact e0)
 ·obtain rfl := sj h
  try simp only [↓Da, Ua, J3f, J5, J0, J2, J8, J4, Jbr, *, ↓reduceIte, reduceEqDiff, reduceAdd, reduceLT, reduceMul]
  rfl
theorem Jkx {x0 : T_api_Pool} {o : T_api_Pool × Int × Int} (h : J2A x0 = some o) : AF (J6 p) J50 [.data (J3 x0)] [] = J6e o :=
 (J0h (J6 p) (JkS p) rfl).trans (JgN p h)
theorem Jej {x0 : T_api_Pool} {o : T_api_Pool × Int × Int} (h : J2A x0 = some o) : ∀ ws new st, (Jl (AF (J6 p)) J50 ([.data (J3 x0)], ws) 0 new).run st = some ⟨.tup [.data (J3 o.1), .p (.i .i64 o.2.1), .p (.i .i64 o.2.2)], ws⟩ := Jy rfl (Jkx p h) rfl
end
end Go.Am
end
section
namespace Go.Am
set_option maxRecDepth 8000
set_option maxHeartbeats 4000000
set_option linter.unusedSimpArgs false
set_option linter.unusedVariables false
noncomputable section
variable (p : FuncId → Option (List AV → List Blk → Option Res))
def Jff  (r : Int) : Option Res := some (.p (.i .i64 r), [])
def J3b (x0 : T_api_Page) : Option (Int) :=
 Option.bind (J3B x0) fun r1 =>
 if r1 then
  Option.bind (J4Q x0) fun r5 =>
  if r5 then
   some 0
  else
   some 22
 else
  some 1
theorem JhS {x0 : T_api_Page} {o : Int} (h : J3b x0 = some o) :
  rk (J6 p) J6Q 0 [] (X (J6 p) J3T ⟨[(0, .data (J9 x0))], []⟩) = Jff o := by
 unfold J3b at h
 obtain ⟨r1, h2, h⟩ := bi h
 have f3 := Jdk p h2
 try simp only [Nf] at f3
 try simp only [↓Da, Ua, J3T, J5, J0, J2, *, ↓reduceIte, reduceEqDiff, reduceAdd, reduceLT, reduceMul]
 rcases Jc h with ⟨h4, h⟩ | ⟨h4, h⟩
 ·obtain ⟨r5, h6, h⟩ := bi h
  have f7 := Jfr p h6
  try simp only [Nf] at f7
  try simp only [↓Da, Ua, J3T, J5, J0, J2, *, ↓reduceIte, reduceEqDiff, reduceAdd, reduceLT, reduceMul]
  rcases Jc h with ⟨h8, h⟩ | ⟨h8, h⟩
  ·obtain rfl := sj h
   try simp only [↓Da, Ua, J3T, J5, J0, J2, JbH, *, ↓reduceIte, reduceEqDiff, reduceAdd, reduceLT, reduceMul]
   rfl
  ·obtain rfl := sj h
   try simp only [↓Da, Ua, J3T, J5, J0, J2, JbH, *, ↓reduceIte, reduceEqDiff, reduceAdd, reduceLT, reduceMul]
   rfl
 ·obtain rfl := sj h
  try simp only [↓Da, Ua, J3T, J5, J0, J2, JbH, *, ↓reduceIte, reduceEqDiff, reduceAdd, reduceLT, reduceMul]
  rfl
theorem Jms {x0 : T_api_Page} {o : Int} (h : J3b x0 = some o) : AF (J6 p) J5B [.data (J9 x0)] [] = Jff o :=
 (J0h (J6 p) (Jmr p) rfl).trans (JhS p h)
theorem Jfg {x0 : T_api_Page} {o : Int} (h : J3b x0 = some o) : ∀ ws new st, (Jl (AF (J6 p)) J5B ([.data (J9 x0)], ws) 0 new).run st = some ⟨.p (.i .i64 o), ws⟩ := Jy rfl (Jms p h) rfl
def Jk1  (r : T_api_Pool × Int) : Option Res := some (.tup [.data (J3 r.1), .p (.i .i64 r.2)], [])
def J20 (x0 : T_api_Pool) (x1 : T_api_Page) : Option (T_api_Pool × Int) :=
 Option.bind (J0J x0) fun r1 =>
 if r1 then
  Option.bind (J1l x1) fun r5 =>
  if ((r5.2 : Int) != 0) then
   some ((⟨0, ([] : List T_api_Frame), 0⟩ : T_api_Pool), r5.2)
  else
   Option.bind (J1M x0 x1.ID) fun r9 =>
   if (decide (r9 ≥ 0)) then
    some ((⟨0, ([] : List T_api_Frame), 0⟩ : T_api_Pool), 25)
   else
    if ((((List.length x0.Frames : Nat) : Int) : Int) == x0.Size) then
     some ((⟨0, ([] : List T_api_Frame), 0⟩ : T_api_Pool), 21)
    else
     Option.bind (J0p x0.Frames) fun r14 =>
     Option.bind (Jg9 424 r14 ([(⟨x1, false, 0, true⟩ : T_api_Frame)] : List T_api_Frame)) fun m19 =>
     some ((⟨x0.Size, m19, x0.Hand⟩ : T_api_Pool), 0)
 else
  some ((⟨0, ([] : List T_api_Frame), 0⟩ : T_api_Pool), 15)
theorem JkL {x0 : T_api_Pool} {x1 : T_api_Page} {o : T_api_Pool × Int} (h : J20 x0 x1 = some o) :
  rk (J6 p) J9q 0 [] (X (J6 p) J3g ⟨[(0, .data (J3 x0)), (1, .data (J9 x1))], []⟩) = Jk1 o := by
 unfold J20 at h
 obtain ⟨r1, h2, h⟩ := bi h
 have f3 := J5t p h2
 try simp only [Nf, Ji, Jh] at f3
 try simp only [↓Da, Ua, Ra, J3g, Ji, J0, J2, Jh, J4, *, ↓reduceIte, reduceEqDiff, reduceAdd, reduceLT, reduceMul, Nat.reduceBEq]
 rcases Jc h with ⟨h4, h⟩ | ⟨h4, h⟩
 ·obtain ⟨r5, h6, h⟩ := bi h
  have f7 := Jfm p h6
  try simp only [Nf, Ji, Jh] at f7
  try simp only [↓Da, Ua, Ra, J3g, Ji, J0, J2, Jh, J4, *, ↓reduceIte, reduceEqDiff, reduceAdd, reduceLT, reduceMul, Nat.reduceBEq]
  rcases Jc h with ⟨h8, h⟩ | ⟨h8, h⟩
  ·obtain rfl := sj h
   try simp only [↓Da, Ua, Ra, J3g, Ji, J0, J2, Jh, J4, Jat, *, ↓reduceIte, reduceEqDiff, reduceAdd, reduceLT, reduceMul, Nat.reduceBEq]
   rfl
  ·obtain ⟨r9, h10, h⟩ := bi h
   have f11 := J8z p h10
   try simp only [Nf, Ji, Jh] at f11
   try simp only [↓Da, Ua, Ra, J3g, Ji, J0, J2, Jh, J4, *, ↓reduceIte, reduceEqDiff, reduceAdd, reduceLT, reduceMul, Nat.reduceBEq]
   rcases Jc h with ⟨h12, h⟩ | ⟨h12, h⟩
   ·obtain rfl := sj h
    try simp only [↓Da, Ua, Ra, J3g, Ji, J0, J2, Jh, J4, Jat, *, ↓reduceIte, reduceEqDiff, reduceAdd, reduceLT, reduceMul, Nat.reduceBEq]
    rfl
   ·try simp only [↓Da, Ua, Ra, J3g, Ji, J0, J2, Jh, J4, *, ↓reduceIte, reduceEqDiff, reduceAdd, reduceLT, reduceMul, Nat.reduceBEq]
    rcases Jc h with ⟨h13, h⟩ | ⟨h13, h⟩
    ·obtain rfl := sj h
     try simp only [↓Da, Ua, Ra, J3g, Ji, J0, J2, Jh, J4, Jat, *, ↓reduceIte, reduceEqDiff, reduceAdd, reduceLT, reduceMul, Nat.reduceBEq]
     rfl
    ·obtain ⟨r14, h15, h⟩ := bi h
     have f16 := Ja2 p h15
     try simp only [Nf, Ji, Jh] at f16
     have f17 : ∀ ws k new s, Jf ((Jl (AF (J6 p)) J0o ([.p (.sl 37 (List.map J7 x0.Frames))], ws) k new).reads s) = [] := JP rfl
     try simp only [Nf, Ji, Jh] at f17
     obtain ⟨m19, h20, h⟩ := bi h
     have f18 : Jj9 37 424 (.p (.slc 37 (List.map J7 r14))) (List.map J7 ([(⟨x1, false, 0, true⟩ : T_api_Frame)] : List T_api_Frame)) = some (List.map J7 m19) := Juq J7 h20
     try simp only [Nf, Ji, Jh] at f18
     obtain rfl := sj h
     try simp only [↓Da, Ua, Ra, J3g, Ji, J0, J2, Jh, J4, Jat, *, ↓reduceIte, reduceEqDiff, reduceAdd, reduceLT, reduceMul, Nat.reduceBEq]
     rfl
 ·obtain rfl := sj h
  try simp only [↓Da, Ua, Ra, J3g, Ji, J0, J2, Jh, J4, Jat, *, ↓reduceIte, reduceEqDiff, reduceAdd, reduceLT, reduceMul, Nat.reduceBEq]
  rfl
theorem JpU {x0 : T_api_Pool} {x1 : T_api_Page} {o : T_api_Pool × Int} (h : J20 x0 x1 = some o) : AF (J6 p) J6Z [.data (J3 x0), .data (J9 x1)] [] = Jk1 o :=
 (J0h (J6 p) (JqH p) rfl).trans (JkL p h)
theorem JeL {x0 : T_api_Pool} {x1 : T_api_Page} {o : T_api_Pool × Int} (h : J20 x0 x1 = some o) : ∀ ws new st, (Jl (AF (J6 p)) J6Z ([.data (J3 x0), .data (J9 x1)], ws) 0 new).run st = some ⟨.tup [.data (J3 o.1), .p (.i .i64 o.2)], ws⟩ := Jy rfl (JpU p h) rfl
def JbW  (r : T_api_Pool × Int) : Option Res := some (.tup [.data (J3 r.1), .p (.i .i64 r.2)], [])
def J5z (x8 : Int) (b0 b2 : T_api_Pool) (b3 : T_api_Frame) : Option (T_api_Pool × Int) :=
 Option.bind (J17 b0.Frames x8 b3) fun r1 =>
 some ((⟨b0.Size, r1, b0.Hand⟩ : T_api_Pool), 0)
theorem JcY {x8 : Int} {b0 b2 : T_api_Pool} {b3 : T_api_Frame} {B1 : List PV} {o : T_api_Pool × Int} (h : J5z x8 b0 b2 b3 = some o) :
  rk (J6 p) J5C 0 [] (X (J6 p) JaV ⟨[(2, .ptr 0 0), (4, .ptr 2 0), (8, .p (.i .i64 x8)), (9, .ptr 3 0)], [.box (List.map AV.p (J3 b0)), .box (List.map AV.p B1), .box (List.map AV.p (J3 b2)), .box (List.map AV.p (J7 b3))]⟩) = JbW o := by
 unfold J5z at h
 obtain ⟨r1, h2, h⟩ := bi h
 have f3 := J7I p h2
 try simp only [Nf] at f3
 obtain rfl := sj h
 try simp only [↓Da, Ua, JaV, J5, J0, J2, J8, J4, J8o, *, ↓reduceIte, reduceEqDiff, reduceAdd, reduceLT, reduceMul]
 rfl
def J3a (x0 : T_api_Pool) (x1 : T_api_Page) : Option (T_api_Pool × Int) :=
 Option.bind (J0J x0) fun r1 =>
 if r1 then
  Option.bind (J1l x1) fun r5 =>
  Option.bind (J1M x0 x1.ID) fun r8 =>
  if ((r5.2 : Int) != 0) then
   some ((⟨0, ([] : List T_api_Frame), 0⟩ : T_api_Pool), r5.2)
  else
   if (decide (r8 < 0)) then
    some ((⟨0, ([] : List T_api_Frame), 0⟩ : T_api_Pool), 18)
   else
    Option.bind (idx x0.Frames r8) fun y13 =>
    if (decide (x1.LSN ≤ y13.Page.LSN)) then
     some ((⟨0, ([] : List T_api_Frame), 0⟩ : T_api_Pool), 8)
    else
     if y13.Dirty then
      J5z r8 x0 (⟨0, ([] : List T_api_Frame), 0⟩ : T_api_Pool) (⟨x1, true, y13.Rec, true⟩ : T_api_Frame)
     else
      J5z r8 x0 (⟨0, ([] : List T_api_Frame), 0⟩ : T_api_Pool) (⟨x1, true, x1.LSN, true⟩ : T_api_Frame)
 else
  some ((⟨0, ([] : List T_api_Frame), 0⟩ : T_api_Pool), 15)
theorem Jhx {x0 : T_api_Pool} {x1 : T_api_Page} {o : T_api_Pool × Int} (h : J3a x0 x1 = some o) :
  rk (J6 p) J5C 0 [] (X (J6 p) J1b ⟨[(0, .data (J3 x0)), (1, .data (J9 x1))], []⟩) = JbW o := by
 unfold J3a at h
 obtain ⟨r1, h2, h⟩ := bi h
 have f3 := J5t p h2
 try simp only [Nf] at f3
 try simp only [↓Da, Ua, Ra, J1b, J5, J0, J2, J8, J4, *, ↓reduceIte, reduceEqDiff, reduceAdd, reduceLT, reduceMul, Nat.reduceBEq]
 rcases Jc h with ⟨h4, h⟩ | ⟨h4, h⟩
 ·obtain ⟨r5, h6, h⟩ := bi h
  have f7 := Jfm p h6
  try simp only [Nf] at f7
  obtain ⟨r8, h9, h⟩ := bi h
  have f10 := J8z p h9
  try simp only [Nf] at f10
  try simp only [↓Da, Ua, Ra, J1b, J5, J0, J2, J8, J4, *, ↓reduceIte, reduceEqDiff, reduceAdd, reduceLT, reduceMul, Nat.reduceBEq]
  rcases Jc h with ⟨h11, h⟩ | ⟨h11, h⟩
  ·obtain rfl := sj h
   try simp only [↓Da, Ua, Ra, J1b, J5, J0, J2, J8, J4, J8o, *, ↓reduceIte, reduceEqDiff, reduceAdd, reduceLT, reduceMul, Nat.reduceBEq]
   rfl
  ·try simp only [↓Da, Ua, Ra, J1b, J5, J0, J2, J8, J4, *, ↓reduceIte, reduceEqDiff, reduceAdd, reduceLT, reduceMul, Nat.reduceBEq]
   rcases Jc h with ⟨h12, h⟩ | ⟨h12, h⟩
   ·obtain rfl := sj h
    try simp only [↓Da, Ua, Ra, J1b, J5, J0, J2, J8, J4, J8o, *, ↓reduceIte, reduceEqDiff, reduceAdd, reduceLT, reduceMul, Nat.reduceBEq]
    rfl
   ·obtain ⟨y13, h14, h⟩ := bi h
    have f15 := J0f (r := J7) h14
    try simp only [Nf] at f15
    have f16 : sub (J7 y13) 1 1 = some ((r_i .i64) y13.Page.LSN) := by
     have e0 := (J2w (JQ y13) (J1p y13.Page))
     exact e0
    try simp only [Nf] at f16
    try simp only [↓Da, Ua, Ra, J1b, J5, J0, J2, J8, J4, *, ↓reduceIte, reduceEqDiff, reduceAdd, reduceLT, reduceMul, Nat.reduceBEq]
    rcases Jc h with ⟨h17, h⟩ | ⟨h17, h⟩
    ·obtain rfl := sj h
     try simp only [↓Da, Ua, Ra, J1b, J5, J0, J2, J8, J4, J8o, *, ↓reduceIte, reduceEqDiff, reduceAdd, reduceLT, reduceMul, Nat.reduceBEq]
     rfl
    ·try simp only [↓Da, Ua, Ra, J1b, J5, J0, J2, J8, J4, *, ↓reduceIte, reduceEqDiff, reduceAdd, reduceLT, reduceMul, Nat.reduceBEq]
     rcases Jc h with ⟨h18, h⟩ | ⟨h18, h⟩
     ·try simp only [↓Da, Ua, Ra, J1b, J5, J0, J2, J8, J4, *, ↓reduceIte, reduceEqDiff, reduceAdd, reduceLT, reduceMul, Nat.reduceBEq]
      have e0 := JcY p (B1 := (J9 x1)) h
      first | exact e0 | (simp only [*] at e0; exact e0)
     ·try simp only [↓Da, Ua, Ra, J1b, J5, J0, J2, J8, J4, *, ↓reduceIte, reduceEqDiff, reduceAdd, reduceLT, reduceMul, Nat.reduceBEq]
      have e0 := JcY p (B1 := (J9 x1)) h
      first | exact e0 | (simp only [*] at e0; exact e0)
 ·obtain rfl := sj h
  try simp only [↓Da, Ua, Ra, J1b, J5, J0, J2, J8, J4, J8o, *, ↓reduceIte, reduceEqDiff, reduceAdd, reduceLT, reduceMul, Nat.reduceBEq]
  rfl
theorem Jmi {x0 : T_api_Pool} {x1 : T_api_Page} {o : T_api_Pool × Int} (h : J3a x0 x1 = some o) : AF (J6 p) J6A [.data (J3 x0), .data (J9 x1)] [] = JbW o :=
 (J0h (J6 p) (Jm7 p) rfl).trans (Jhx p h)
theorem Jmx {x0 : T_api_Pool} {x1 : T_api_Page} {o : T_api_Pool × Int} (h : J3a x0 x1 = some o) : ∀ ws new st, (Jl (AF (J6 p)) J6A ([.data (J3 x0), .data (J9 x1)], ws) 0 new).run st = some ⟨.tup [.data (J3 o.1), .p (.i .i64 o.2)], ws⟩ := Jy rfl (Jmi p h) rfl
def JcN  (r : T_api_Pool × Int) : Option Res := some (.tup [.data (J3 r.1), .p (.i .i64 r.2)], [])
def J59 (x8 : Int) (b0 b1 : T_api_Pool) (b2 : T_api_Frame) : Option (T_api_Pool × Int) :=
 Option.bind (J17 b0.Frames x8 b2) fun r1 =>
 some ((⟨b0.Size, r1, b0.Hand⟩ : T_api_Pool), 0)
theorem Jbi {x8 : Int} {b0 b1 : T_api_Pool} {b2 : T_api_Frame} {o : T_api_Pool × Int} (h : J59 x8 b0 b1 b2 = some o) :
  rk (J6 p) J6m 0 [] (X (J6 p) Jbt ⟨[(3, .ptr 0 0), (6, .ptr 1 0), (8, .p (.i .i64 x8)), (9, .ptr 2 0)], [.box (List.map AV.p (J3 b0)), .box (List.map AV.p (J3 b1)), .box (List.map AV.p (J7 b2))]⟩) = JcN o := by
 unfold J59 at h
 obtain ⟨r1, h2, h⟩ := bi h
 have f3 := J7I p h2
 try simp only [Nf] at f3
 obtain rfl := sj h
 try simp only [↓Da, Ua, Jbt, J5, J0, J2, J8, J4, J9h, *, ↓reduceIte, reduceEqDiff, reduceAdd, reduceLT, reduceMul]
 rfl
def J4e (x0 : T_api_Pool) (x1 x2 : Int) : Option (T_api_Pool × Int) :=
 Option.bind (J0J x0) fun r1 =>
 if r1 then
  Option.bind (J1M x0 x1) fun r5 =>
  if (decide (r5 < 0)) then
   some ((⟨0, ([] : List T_api_Frame), 0⟩ : T_api_Pool), 18)
  else
   Option.bind (idx x0.Frames r5) fun y9 =>
   if (decide (x2 > y9.Page.LSN)) then
    some ((⟨0, ([] : List T_api_Frame), 0⟩ : T_api_Pool), 9)
   else
    if y9.Dirty then
     if ((x2 : Int) == y9.Page.LSN) then
      J59 r5 x0 (⟨0, ([] : List T_api_Frame), 0⟩ : T_api_Pool) (⟨y9.Page, false, 0, y9.Used⟩ : T_api_Frame)
     else
      if (decide (y9.Rec ≤ x2)) then
       J59 r5 x0 (⟨0, ([] : List T_api_Frame), 0⟩ : T_api_Pool) (⟨y9.Page, y9.Dirty, (IntKind.wrap .i64 (x2 + 1)), y9.Used⟩ : T_api_Frame)
      else
       J59 r5 x0 (⟨0, ([] : List T_api_Frame), 0⟩ : T_api_Pool) y9
    else
     some (x0, 0)
 else
  some ((⟨0, ([] : List T_api_Frame), 0⟩ : T_api_Pool), 15)
theorem Jiy {x0 : T_api_Pool} {x1 x2 : Int} {o : T_api_Pool × Int} (h : J4e x0 x1 x2 = some o) :
  rk (J6 p) J6m 0 [] (X (J6 p) J11 ⟨[(0, .data (J3 x0)), (1, .p (.i .i64 x1)), (2, .p (.i .i64 x2))], []⟩) = JcN o := by
 unfold J4e at h
 obtain ⟨r1, h2, h⟩ := bi h
 have f3 := J5t p h2
 try simp only [Nf] at f3
 try simp only [↓Da, Ua, J11, J5, J0, J2, J8, J4, *, ↓reduceIte, reduceEqDiff, reduceAdd, reduceLT, reduceMul]
 rcases Jc h with ⟨h4, h⟩ | ⟨h4, h⟩
 ·obtain ⟨r5, h6, h⟩ := bi h
  have f7 := J8z p h6
  try simp only [Nf] at f7
  try simp only [↓Da, Ua, J11, J5, J0, J2, J8, J4, *, ↓reduceIte, reduceEqDiff, reduceAdd, reduceLT, reduceMul]
  rcases Jc h with ⟨h8, h⟩ | ⟨h8, h⟩
  ·obtain rfl := sj h
   try simp only [↓Da, Ua, J11, J5, J0, J2, J8, J4, J9h, *, ↓reduceIte, reduceEqDiff, reduceAdd, reduceLT, reduceMul]
   rfl
  ·obtain ⟨y9, h10, h⟩ := bi h
   have f11 := J0f (r := J7) h10
   try simp only [Nf] at f11
   have f12 : sub (J7 y9) 1 1 = some ((r_i .i64) y9.Page.LSN) := by
    have e0 := (J2w (JQ y9) (J1p y9.Page))
    exact e0
   try simp only [Nf] at f12
   try simp only [↓Da, Ua, J11, J5, J0, J2, J8, J4, *, ↓reduceIte, reduceEqDiff, reduceAdd, reduceLT, reduceMul]
   rcases Jc h with ⟨h13, h⟩ | ⟨h13, h⟩
   ·obtain rfl := sj h
    try simp only [↓Da, Ua, J11, J5, J0, J2, J8, J4, J9h, *, ↓reduceIte, reduceEqDiff, reduceAdd, reduceLT, reduceMul]
    rfl
   ·try simp only [↓Da, Ua, J11, J5, J0, J2, J8, J4, *, ↓reduceIte, reduceEqDiff, reduceAdd, reduceLT, reduceMul]
    rcases Jc h with ⟨h14, h⟩ | ⟨h14, h⟩
    ·have f15 : sub (J7 y9) 1 1 = some ((r_i .i64) y9.Page.LSN) := by
      have e0 := (J2w (JQ y9) (J1p y9.Page))
      exact e0
     try simp only [Nf] at f15
     try simp only [↓Da, Ua, J11, J5, J0, J2, J8, J4, *, ↓reduceIte, reduceEqDiff, reduceAdd, reduceLT, reduceMul]
     rcases Jc h with ⟨h16, h⟩ | ⟨h16, h⟩
     ·try simp only [↓Da, Ua, J11, J5, J0, J2, J8, J4, *, ↓reduceIte, reduceEqDiff, reduceAdd, reduceLT, reduceMul]
      have e0 := Jbi p h
      first | exact e0 | (simp only [*] at e0; exact e0)
     ·try simp only [↓Da, Ua, J11, J5, J0, J2, J8, J4, *, ↓reduceIte, reduceEqDiff, reduceAdd, reduceLT, reduceMul]
      rcases Jc h with ⟨h17, h⟩ | ⟨h17, h⟩
      ·try simp only [↓Da, Ua, J11, J5, J0, J2, J8, J4, *, ↓reduceIte, reduceEqDiff, reduceAdd, reduceLT, reduceMul]
       have e0 := Jbi p h
       first | exact e0 | (simp only [*] at e0; exact e0)
      ·try simp only [↓Da, Ua, J11, J5, J0, J2, J8, J4, *, ↓reduceIte, reduceEqDiff, reduceAdd, reduceLT, reduceMul]
       have e0 := Jbi p h
       first | exact e0 | (simp only [*] at e0; exact e0)
    ·obtain rfl := sj h
     try simp only [↓Da, Ua, J11, J5, J0, J2, J8, J4, J9h, *, ↓reduceIte, reduceEqDiff, reduceAdd, reduceLT, reduceMul]
     rfl
 ·obtain rfl := sj h
  try simp only [↓Da, Ua, J11, J5, J0, J2, J8, J4, J9h, *, ↓reduceIte, reduceEqDiff, reduceAdd, reduceLT, reduceMul]
  rfl
theorem Jn8 {x0 : T_api_Pool} {x1 x2 : Int} {o : T_api_Pool × Int} (h : J4e x0 x1 x2 = some o) : AF (J6 p) J7K [.data (J3 x0), .p (.i .i64 x1), .p (.i .i64 x2)] [] = JcN o :=
 (J0h (J6 p) (Jnr p) rfl).trans (Jiy p h)
theorem JnQ {x0 : T_api_Pool} {x1 x2 : Int} {o : T_api_Pool × Int} (h : J4e x0 x1 x2 = some o) : ∀ ws new st, (Jl (AF (J6 p)) J7K ([.data (J3 x0), .p (.i .i64 x1), .p (.i .i64 x2)], ws) 0 new).run st = some ⟨.tup [.data (J3 o.1), .p (.i .i64 o.2)], ws⟩ := Jy rfl (Jn8 p h) rfl
def J7y  (r : (List T_api_Dirty)) : Option Res := some (.p (.sl 3 (List.map Je r)), [])
def Jld (x10 : List T_api_Frame) (x11 : Int) (B0 : List PV) (o : (Int × (List T_api_Dirty)) ⊕ ((List T_api_Dirty))) : Option Res := match o with
 | .inl s => rk (J6 p) J36 0 [.bl 0, .td 2 [2, 3], .sq (.keep [3] J52)] (X (J6 p) (.lp 2 [3, 10, 11, 12] J2u) ⟨[(3, .slr 1 0 (List.length s.2)), (10, .p (.sl 37 (List.map J7 x10))), (11, .p (.i .i64 x11)), (12, .p (.i .i64 s.1))], [.box (List.map AV.p B0), .arr true 3 (List.map Je s.2)]⟩)
 | .inr o => J7y o
def J6f (l1 : List T_api_Dirty) : Option ((List T_api_Dirty)) :=
 Option.bind (J1x l1 ) fun r1 =>
 some r1
theorem Jlc {l1 : List T_api_Dirty} {B0 : List PV} {o : (List T_api_Dirty)} (h : J6f l1 = some o) :
  rk (J6 p) J36 0 [] (X (J6 p) J52 ⟨[(3, .slr 1 0 (List.length l1))], [.box (List.map AV.p B0), .arr true 3 (List.map Je l1)]⟩) = J7y o := by
 unfold J6f at h
 obtain ⟨r1, h2, h⟩ := bi h
 have f3 : ∀ ws new s, (J7C ws 1).run s = some (.arr true 3 (List.map Je l1)) → (J3m (AF (J6 p)) J0R ([.slr 1 0 (List.length l1), .fn J8S [] []], ws) 0 new).run s = some ⟨.tup [], ws ++ [(1, .arr true 3 (List.map Je r1))]⟩ := fun ws new s h1 => Jkg rfl (by first | rfl | simp [ren.renL, ren, J3A]) (J90 p h2) (fun _ => rfl) ws new s h1
 try simp only [Nf] at f3
 have g4 : List.length r1 = List.length l1 := J8l h2
 obtain rfl := sj h
 try simp only [↓Da, Ua, J52, J00, Jg6, *, ↓reduceIte, reduceEqDiff, reduceAdd, reduceLT, reduceMul]
 rfl
def J5e (x10 : List T_api_Frame) (x11 x12 : Int) (l1 : List T_api_Dirty) : Option (((Int × (List T_api_Dirty)) ⊕ ((List T_api_Dirty)))) :=
 if (decide (x12 < x11)) then
  Option.bind (idx x10 x12) fun y2 =>
  if y2.Dirty then
   Option.bind (Jah 24 l1 ([(⟨y2.Page.ID, y2.Rec, y2.Page.LSN⟩ : T_api_Dirty)] : List T_api_Dirty)) fun m8 =>
   some (.inl ((IntKind.wrap .i64 (x12 + 1)), m8))
  else
   some (.inl ((IntKind.wrap .i64 (x12 + 1)), l1))
 else
  Option.map (fun o => .inr o) (J6f l1)
theorem Je9 {x10 : List T_api_Frame} {x11 x12 : Int} {l1 : List T_api_Dirty} {B0 : List PV} {o : ((Int × (List T_api_Dirty)) ⊕ ((List T_api_Dirty)))} (h : J5e x10 x11 x12 l1 = some o) :
  rk (J6 p) J36 0 [.lo 2 [3, 10, 11, 12] J2u, .bl 0, .td 2 [2, 3], .sq (.keep [3] J52)] (X (J6 p) J2u ⟨[(3, .slr 1 0 (List.length l1)), (10, .p (.sl 37 (List.map J7 x10))), (11, .p (.i .i64 x11)), (12, .p (.i .i64 x12))], [.box (List.map AV.p B0), .arr true 3 (List.map Je l1)]⟩) = (Jld p x10 x11 B0) o := by
 unfold J5e at h
 rcases Jc h with ⟨h1, h⟩ | ⟨h1, h⟩
 ·obtain ⟨y2, h3, h⟩ := bi h
  have f4 := J0f (r := J7) h3
  try simp only [Nf] at f4
  try simp only [↓Da, Ua, J2u, J5, J0, J2, J00, J4, *, ↓reduceIte, reduceEqDiff, reduceAdd, reduceLT, reduceMul]
  rcases Jc h with ⟨h5, h⟩ | ⟨h5, h⟩
  ·have f6 : sub (J7 y2) 0 1 = some ((r_i .i64) y2.Page.ID) := by
    have e0 := (J2w (JQ y2) (J2T y2.Page))
    exact e0
   try simp only [Nf] at f6
   have f7 : sub (J7 y2) 1 1 = some ((r_i .i64) y2.Page.LSN) := by
    have e0 := (J2w (JQ y2) (J1p y2.Page))
    exact e0
   try simp only [Nf] at f7
   obtain ⟨m8, h9, h⟩ := bi h
   have f10 : ∀ s : St, s.sto[1]? = some (.arr true 3 (List.map Je l1)) → (J05 3 (.p (.sl 3 (List.map Je ([(⟨y2.Page.ID, y2.Rec, y2.Page.LSN⟩ : T_api_Dirty)] : List T_api_Dirty))))).run s = some (List.map Je ([(⟨y2.Page.ID, y2.Rec, y2.Page.LSN⟩ : T_api_Dirty)] : List T_api_Dirty)) → (J4S 3 24 (.slr 1 0 (List.length l1)) (.p (.sl 3 (List.map Je ([(⟨y2.Page.ID, y2.Rec, y2.Page.LSN⟩ : T_api_Dirty)] : List T_api_Dirty))))).run s = some ⟨.slr 1 0 (List.length m8), [(1, .arr true 3 (List.map Je m8))]⟩ := by
    intro s e1 e2; have e3 := JdY h9 e1 e2; try simp only [List.length_cons, List.length_nil, Nat.zero_add] at e3
    exact e3
   try simp only [Nf] at f10
   obtain rfl := sj h
   try simp only [↓Da, Ua, J2u, J5, J0, J2, J00, J4, *, ↓reduceIte, reduceEqDiff, reduceAdd, reduceLT, reduceMul]
   rfl
  ·obtain rfl := sj h
   try simp only [↓Da, Ua, J2u, J5, J0, J2, J00, J4, *, ↓reduceIte, reduceEqDiff, reduceAdd, reduceLT, reduceMul]
   rfl
 ·obtain ⟨o', h', rfl⟩ := mi h
  try simp only [↓Da, Ua, J2u, J5, J0, J2, J00, J4, *, ↓reduceIte, reduceEqDiff, reduceAdd, reduceLT, reduceMul]
  have e0 := Jlc p (B0 := B0) h'
  first | exact e0 | (simp only [*] at e0; exact e0)
def Jbg (x10 : List T_api_Frame) (x11 : Int) (s : Int × (List T_api_Dirty)) : Option ((List T_api_Dirty)) :=
 JO (fun s => J5e x10 x11 s.1 s.2) s
theorem JiA {x10 : List T_api_Frame} {x11 : Int} {B0 : List PV} {s : Int × (List T_api_Dirty)} {o : (List T_api_Dirty)} (h : Jbg x10 x11 s = some o) :
  rk (J6 p) J36 0 [.bl 0, .td 2 [2, 3], .sq (.keep [3] J52)] (X (J6 p) (.lp 2 [3, 10, 11, 12] J2u) ⟨[(3, .slr 1 0 (List.length s.2)), (10, .p (.sl 37 (List.map J7 x10))), (11, .p (.i .i64 x11)), (12, .p (.i .i64 s.1))], [.box (List.map AV.p B0), .arr true 3 (List.map Je s.2)]⟩) = J7y o := by
 have h0 : JO (fun s => J5e x10 x11 s.1 s.2) s = some o := h
 exact J0M (P := fun (s : Int × (List T_api_Dirty)) (o : (List T_api_Dirty)) => rk (J6 p) J36 0 [.bl 0, .td 2 [2, 3], .sq (.keep [3] J52)] (X (J6 p) (.lp 2 [3, 10, 11, 12] J2u) ⟨[(3, .slr 1 0 (List.length s.2)), (10, .p (.sl 37 (List.map J7 x10))), (11, .p (.i .i64 x11)), (12, .p (.i .i64 s.1))], [.box (List.map AV.p B0), .arr true 3 (List.map Je s.2)]⟩) = J7y o) (fun s r hs => by rw [J0w]; exact Je9 p hs) (fun s s1 r hs ih => by rw [J0w]; exact (Je9 p hs).trans ih) h0
def J5w (x0 : T_api_Pool) : Option ((List T_api_Dirty)) :=
 Option.bind (J0J x0) fun r1 =>
 if r1 then
  Jbg x0.Frames ((List.length x0.Frames : Nat) : Int) (0, ([] : List T_api_Dirty))
 else
  some ([] : List T_api_Dirty)
theorem JiQ {x0 : T_api_Pool} {o : (List T_api_Dirty)} (h : J5w x0 = some o) :
  rk (J6 p) J36 0 [] (X (J6 p) J6o ⟨[(0, .data (J3 x0))], []⟩) = J7y o := by
 unfold J5w at h
 obtain ⟨r1, h2, h⟩ := bi h
 have f3 := J5t p h2
 try simp only [Nf] at f3
 try simp only [↓Da, Ua, J6o, J5, J0, J2, J8, J00, J4, *, ↓reduceIte, reduceEqDiff, reduceAdd, reduceLT, reduceMul]
 rcases Jc h with ⟨h4, h⟩ | ⟨h4, h⟩
 ·try simp only [↓Da, Ua, J6o, J5, J0, J2, J8, J00, J4, *, ↓reduceIte, reduceEqDiff, reduceAdd, reduceLT, reduceMul]
  have e0 := JiA p (B0 := (J3 x0)) h
  first | exact e0 | (simp only [*] at e0; exact e0)
 ·obtain rfl := sj h
  try simp only [↓Da, Ua, J6o, J5, J0, J2, J8, J00, J4, Jg6, *, ↓reduceIte, reduceEqDiff, reduceAdd, reduceLT, reduceMul]
  rfl
theorem Jnb {x0 : T_api_Pool} {o : (List T_api_Dirty)} (h : J5w x0 = some o) : AF (J6 p) J6k [.data (J3 x0)] [] = J7y o :=
 (J0h (J6 p) (Jny p) rfl).trans (JiQ p h)
theorem JnX {x0 : T_api_Pool} {o : (List T_api_Dirty)} (h : J5w x0 = some o) : ∀ ws new st, (Jl (AF (J6 p)) J6k ([.data (J3 x0)], ws) 0 new).run st = some ⟨.p (.sl 3 (List.map Je o)), ws⟩ := Jy rfl (Jnb p h) rfl
def Jbv  (r : T_api_Pool × Int) : Option Res := some (.tup [.data (J3 r.1), .p (.i .i64 r.2)], [])
def J4L (b0 b1 : T_api_Pool) : Option (T_api_Pool × Int) :=
 some (b0, 0)
theorem Jfo {b0 b1 : T_api_Pool} {B2 : Blk} {o : T_api_Pool × Int} (h : J4L b0 b1 = some o) :
  rk (J6 p) J63 0 [] (X (J6 p) JbX ⟨[(2, .ptr 0 0), (4, .ptr 1 0)], [.box (List.map AV.p (J3 b0)), .box (List.map AV.p (J3 b1)), B2]⟩) = Jbv o := by
 unfold J4L at h
 obtain rfl := sj h
 try simp only [↓Da, Ua, JbX, J5, J0, J2, J8, J4, JbA, ↓reduceIte, reduceEqDiff, reduceAdd, reduceLT, reduceMul]
 rfl
def J6I (b0 b1 : T_api_Pool) : Option (T_api_Pool × Int) :=
 if (decide (b0.Hand ≥ ((List.length b0.Frames : Nat) : Int))) then
  J4L (⟨b0.Size, b0.Frames, 0⟩ : T_api_Pool) b1
 else
  J4L b0 b1
theorem Jfu {b0 b1 : T_api_Pool} {B2 : Blk} {o : T_api_Pool × Int} (h : J6I b0 b1 = some o) :
  rk (J6 p) J63 0 [] (X (J6 p) Ja9 ⟨[(2, .ptr 0 0), (4, .ptr 1 0)], [.box (List.map AV.p (J3 b0)), .box (List.map AV.p (J3 b1)), B2]⟩) = Jbv o := by
 unfold J6I at h
 rcases Jc h with ⟨h1, h⟩ | ⟨h1, h⟩
 ·try simp only [↓Da, Ua, Ja9, J5, J0, J2, J8, J4, *, ↓reduceIte, reduceEqDiff, reduceAdd, reduceLT, reduceMul]
  have e0 := Jfo p (B2 := B2) h
  first | exact e0 | (simp only [*] at e0; exact e0)
 ·try simp only [↓Da, Ua, Ja9, J5, J0, J2, J8, J4, *, ↓reduceIte, reduceEqDiff, reduceAdd, reduceLT, reduceMul]
  have e0 := Jfo p (B2 := B2) h
  first | exact e0 | (simp only [*] at e0; exact e0)
def J5l (x0 : T_api_Pool) (x1 : Int) : Option (T_api_Pool × Int) :=
 Option.bind (J0J x0) fun r1 =>
 if r1 then
  Option.bind (J1M x0 x1) fun r5 =>
  if (decide (r5 < 0)) then
   some ((⟨0, ([] : List T_api_Frame), 0⟩ : T_api_Pool), 18)
  else
   Option.bind (idx x0.Frames r5) fun y9 =>
   if y9.Dirty then
    some ((⟨0, ([] : List T_api_Frame), 0⟩ : T_api_Pool), 23)
   else
    Option.bind (J0j x0.Frames) fun r13 =>
    Option.bind (J1Q r13 r5 (IntKind.wrap .i64 (r5 + 1))) fun r16 =>
    if (decide (r5 < x0.Hand)) then
     J6I (⟨x0.Size, r16, (IntKind.wrap .i64 (x0.Hand - 1))⟩ : T_api_Pool) (⟨0, ([] : List T_api_Frame), 0⟩ : T_api_Pool)
    else
     J6I (⟨x0.Size, r16, x0.Hand⟩ : T_api_Pool) (⟨0, ([] : List T_api_Frame), 0⟩ : T_api_Pool)
 else
  some ((⟨0, ([] : List T_api_Frame), 0⟩ : T_api_Pool), 15)
theorem JjD {x0 : T_api_Pool} {x1 : Int} {o : T_api_Pool × Int} (h : J5l x0 x1 = some o) :
  rk (J6 p) J63 0 [] (X (J6 p) J2z ⟨[(0, .data (J3 x0)), (1, .p (.i .i64 x1))], []⟩) = Jbv o := by
 unfold J5l at h
 obtain ⟨r1, h2, h⟩ := bi h
 have f3 := J5t p h2
 try simp only [Nf] at f3
 try simp only [↓Da, Ua, J2z, J5, J0, J2, J8, J4, *, ↓reduceIte, reduceEqDiff, reduceAdd, reduceLT, reduceMul]
 rcases Jc h with ⟨h4, h⟩ | ⟨h4, h⟩
 ·obtain ⟨r5, h6, h⟩ := bi h
  have f7 := J8z p h6
  try simp only [Nf] at f7
  try simp only [↓Da, Ua, J2z, J5, J0, J2, J8, J4, *, ↓reduceIte, reduceEqDiff, reduceAdd, reduceLT, reduceMul]
  rcases Jc h with ⟨h8, h⟩ | ⟨h8, h⟩
  ·obtain rfl := sj h
   try simp only [↓Da, Ua, J2z, J5, J0, J2, J8, J4, JbA, *, ↓reduceIte, reduceEqDiff, reduceAdd, reduceLT, reduceMul]
   rfl
  ·obtain ⟨y9, h10, h⟩ := bi h
   have f11 := J0f (r := J7) h10
   try simp only [Nf] at f11
   try simp only [↓Da, Ua, J2z, J5, J0, J2, J8, J4, *, ↓reduceIte, reduceEqDiff, reduceAdd, reduceLT, reduceMul]
   rcases Jc h with ⟨h12, h⟩ | ⟨h12, h⟩
   ·obtain rfl := sj h
    try simp only [↓Da, Ua, J2z, J5, J0, J2, J8, J4, JbA, *, ↓reduceIte, reduceEqDiff, reduceAdd, reduceLT, reduceMul]
    rfl
   ·obtain ⟨r13, h14, h⟩ := bi h
    have f15 : ∀ ws new s, (Jl (AF (J6 p)) JT ([.p (.sl 37 (List.map J7 x0.Frames))], ws) 1 new).run s = some ⟨.slr new 0 (List.length r13), ws ++ [(new, .arr true 37 (List.map J7 r13))]⟩ := Jew rfl (J3w p h14)
    try simp only [Nf] at f15
    obtain ⟨r16, h17, h⟩ := bi h
    have f18 : ∀ ws new s, (J7C ws 2).run s = some (.arr true 37 (List.map J7 r13)) → (J3m (AF (J6 p)) J16 ([.slr 2 0 (List.length r13), .p (.i .i64 r5), .p (.i .i64 (IntKind.wrap .i64 (r5 + 1)))], ws) 0 new).run s = some ⟨.p (.sl 37 (List.map J7 r16)), ws ++ [(2, .arr false 37 (List.map J7 (r16 ++ List.replicate (List.length r13 - List.length r16) (⟨(⟨0, 0, (Vector.replicate 16 (⟨false, []⟩ : Jk))⟩ : T_api_Page), false, 0, false⟩ : T_api_Frame))))]⟩ := fun ws new s h1 => Jkg rfl (by first | rfl | simp [ren.renL, ren, J3A]) (J9s p h17) (fun _ => rfl) ws new s h1
    try simp only [Nf] at f18
    try simp only [↓Da, Ua, J2z, J5, J0, J2, J8, J4, *, ↓reduceIte, reduceEqDiff, reduceAdd, reduceLT, reduceMul]
    rcases Jc h with ⟨h19, h⟩ | ⟨h19, h⟩
    ·try simp only [↓Da, Ua, J2z, J5, J0, J2, J8, J4, *, ↓reduceIte, reduceEqDiff, reduceAdd, reduceLT, reduceMul]
     have e0 := Jfu p (B2 := .arr false 37 (List.map J7 (r16 ++ List.replicate (List.length r13 - List.length r16) (⟨(⟨0, 0, (Vector.replicate 16 (⟨false, []⟩ : Jk))⟩ : T_api_Page), false, 0, false⟩ : T_api_Frame)))) h
     first | exact e0 | (simp only [*] at e0; exact e0)
    ·try simp only [↓Da, Ua, J2z, J5, J0, J2, J8, J4, *, ↓reduceIte, reduceEqDiff, reduceAdd, reduceLT, reduceMul]
     have e0 := Jfu p (B2 := .arr false 37 (List.map J7 (r16 ++ List.replicate (List.length r13 - List.length r16) (⟨(⟨0, 0, (Vector.replicate 16 (⟨false, []⟩ : Jk))⟩ : T_api_Page), false, 0, false⟩ : T_api_Frame)))) h
     first | exact e0 | (simp only [*] at e0; exact e0)
 ·obtain rfl := sj h
  try simp only [↓Da, Ua, J2z, J5, J0, J2, J8, J4, JbA, *, ↓reduceIte, reduceEqDiff, reduceAdd, reduceLT, reduceMul]
  rfl
theorem Jp0 {x0 : T_api_Pool} {x1 : Int} {o : T_api_Pool × Int} (h : J5l x0 x1 = some o) : AF (J6 p) J8r [.data (J3 x0), .p (.i .i64 x1)] [] = Jbv o :=
 (J0h (J6 p) (Jpi p) rfl).trans (JjD p h)
theorem JoS {x0 : T_api_Pool} {x1 : Int} {o : T_api_Pool × Int} (h : J5l x0 x1 = some o) : ∀ ws new st, (Jl (AF (J6 p)) J8r ([.data (J3 x0), .p (.i .i64 x1)], ws) 0 new).run st = some ⟨.tup [.data (J3 o.1), .p (.i .i64 o.2)], ws⟩ := Jy rfl (Jp0 p h) rfl
def Jjl  (r : T_api_Page × Bool) : Option Res := some (.tup [.data (J9 r.1), .p (.b r.2)], [])
def J5V (x0 : T_api_Pool) (x1 : Int) : Option (T_api_Page × Bool) :=
 Option.bind (J1w x0 x1) fun r1 =>
 if (decide (r1 ≥ 0)) then
  Option.bind (idx x0.Frames r1) fun y5 =>
  some (y5.Page, true)
 else
  some ((⟨0, 0, (Vector.replicate 16 (⟨false, []⟩ : Jk))⟩ : T_api_Page), false)
theorem JkG {x0 : T_api_Pool} {x1 : Int} {o : T_api_Page × Bool} (h : J5V x0 x1 = some o) :
  rk (J6 p) J9j 0 [] (X (J6 p) J86 ⟨[(0, .data (J3 x0)), (1, .p (.i .i64 x1))], []⟩) = Jjl o := by
 unfold J5V at h
 obtain ⟨r1, h2, h⟩ := bi h
 have f3 := Jdy p h2
 try simp only [Nf] at f3
 try simp only [↓Da, Ua, J86, J5, J0, J2, J8, J4, *, ↓reduceIte, reduceEqDiff, reduceAdd, reduceLT, reduceMul]
 rcases Jc h with ⟨h4, h⟩ | ⟨h4, h⟩
 ·obtain ⟨y5, h6, h⟩ := bi h
  have f7 := J0f (r := J7) h6
  try simp only [Nf] at f7
  obtain rfl := sj h
  try simp only [↓Da, Ua, J86, J5, J0, J2, J8, J4, Jjs, *, ↓reduceIte, reduceEqDiff, reduceAdd, reduceLT, reduceMul]
  rfl
 ·obtain rfl := sj h
  try simp only [↓Da, Ua, J86, J5, J0, J2, J8, J4, Jjs, *, ↓reduceIte, reduceEqDiff, reduceAdd, reduceLT, reduceMul]
  rfl
theorem Jqi {x0 : T_api_Pool} {x1 : Int} {o : T_api_Page × Bool} (h : J5V x0 x1 = some o) : AF (J6 p) J9A [.data (J3 x0), .p (.i .i64 x1)] [] = Jjl o :=
 (J0h (J6 p) (Jqr p) rfl).trans (JkG p h)
theorem Jql {x0 : T_api_Pool} {x1 : Int} {o : T_api_Page × Bool} (h : J5V x0 x1 = some o) : ∀ ws new st, (Jl (AF (J6 p)) J9A ([.data (J3 x0), .p (.i .i64 x1)], ws) 0 new).run st = some ⟨.tup [.data (J9 o.1), .p (.b o.2)], ws⟩ := Jy rfl (Jqi p h) rfl
def Jif  (r : T_api_Page × Bool) : Option Res := some (.tup [.data (J9 r.1), .p (.b r.2)], [])
def J3P (x0 : T_api_Pool) (x1 : Int) : Option (T_api_Page × Bool) :=
 Option.bind (J1c x0 x1) fun r1 =>
 if (decide (r1 < 0)) then
  some ((⟨0, 0, (Vector.replicate 16 (⟨false, []⟩ : Jk))⟩ : T_api_Page), false)
 else
  Option.bind (idx x0.Frames r1) fun y5 =>
  some (y5.Page, true)
theorem JjC {x0 : T_api_Pool} {x1 : Int} {o : T_api_Page × Bool} (h : J3P x0 x1 = some o) :
  rk (J6 p) J8u 0 [] (X (J6 p) J7h ⟨[(0, .data (J3 x0)), (1, .p (.i .i64 x1))], []⟩) = Jif o := by
 unfold J3P at h
 obtain ⟨r1, h2, h⟩ := bi h
 have f3 := JcO p h2
 try simp only [Nf] at f3
 try simp only [↓Da, Ua, J7h, J5, J0, J2, J8, J4, *, ↓reduceIte, reduceEqDiff, reduceAdd, reduceLT, reduceMul]
 rcases Jc h with ⟨h4, h⟩ | ⟨h4, h⟩
 ·obtain rfl := sj h
  try simp only [↓Da, Ua, J7h, J5, J0, J2, J8, J4, Jie, *, ↓reduceIte, reduceEqDiff, reduceAdd, reduceLT, reduceMul]
  rfl
 ·obtain ⟨y5, h6, h⟩ := bi h
  have f7 := J0f (r := J7) h6
  try simp only [Nf] at f7
  obtain rfl := sj h
  try simp only [↓Da, Ua, J7h, J5, J0, J2, J8, J4, Jie, *, ↓reduceIte, reduceEqDiff, reduceAdd, reduceLT, reduceMul]
  rfl
theorem Jpc {x0 : T_api_Pool} {x1 : Int} {o : T_api_Page × Bool} (h : J3P x0 x1 = some o) : AF (J6 p) J65 [.data (J3 x0), .p (.i .i64 x1)] [] = Jif o :=
 (J0h (J6 p) (Jp2 p) rfl).trans (JjC p h)
theorem Jdw {x0 : T_api_Pool} {x1 : Int} {o : T_api_Page × Bool} (h : J3P x0 x1 = some o) : ∀ ws new st, (Jl (AF (J6 p)) J65 ([.data (J3 x0), .p (.i .i64 x1)], ws) 0 new).run st = some ⟨.tup [.data (J9 o.1), .p (.b o.2)], ws⟩ := Jy rfl (Jpc p h) rfl
def Jia  (r : T_api_Pool × Int) : Option Res := some (.tup [.data (J3 r.1), .p (.i .i64 r.2)], [])
def J3M (x0 : T_api_Pool) (x1 : T_api_Page) : Option (T_api_Pool × Int) :=
 Option.bind (J0D x0) fun r1 =>
 if r1 then
  Option.bind (J3b x1) fun r5 =>
  if ((r5 : Int) != 0) then
   some ((⟨0, ([] : List T_api_Frame), 0⟩ : T_api_Pool), r5)
  else
   Option.bind (J1C x0 x1.ID) fun r9 =>
   if (decide (r9 ≥ 0)) then
    some ((⟨0, ([] : List T_api_Frame), 0⟩ : T_api_Pool), 25)
   else
    if ((((List.length x0.Frames : Nat) : Int) : Int) == x0.Size) then
     some ((⟨0, ([] : List T_api_Frame), 0⟩ : T_api_Pool), 21)
    else
     Option.bind (Jf2 424 x0.Frames) fun u15 =>
     Option.bind (Jah 424 x0.Frames ([(⟨x1, false, 0, true⟩ : T_api_Frame)] : List T_api_Frame)) fun m17 =>
     some ((⟨x0.Size, m17, x0.Hand⟩ : T_api_Pool), 0)
 else
  some ((⟨0, ([] : List T_api_Frame), 0⟩ : T_api_Pool), 15)
theorem Jjo {x0 : T_api_Pool} {x1 : T_api_Page} {o : T_api_Pool × Int} (h : J3M x0 x1 = some o) :
  rk (J6 p) J8q 0 [] (X (J6 p) J2t ⟨[(0, .data (J3 x0)), (1, .data (J9 x1))], []⟩) = Jia o := by
 unfold J3M at h
 obtain ⟨r1, h2, h⟩ := bi h
 have f3 := J4P p h2
 try simp only [Nf, Ji, Jh] at f3
 try simp only [↓Da, Ua, Ra, J2t, Ji, J0, J2, Jh, J4, *, ↓reduceIte, reduceEqDiff, reduceAdd, reduceLT, reduceMul, Nat.reduceBEq]
 rcases Jc h with ⟨h4, h⟩ | ⟨h4, h⟩
 ·obtain ⟨r5, h6, h⟩ := bi h
  have f7 := Jfg p h6
  try simp only [Nf, Ji, Jh] at f7
  try simp only [↓Da, Ua, Ra, J2t, Ji, J0, J2, Jh, J4, *, ↓reduceIte, reduceEqDiff, reduceAdd, reduceLT, reduceMul, Nat.reduceBEq]
  rcases Jc h with ⟨h8, h⟩ | ⟨h8, h⟩
  ·obtain rfl := sj h
   try simp only [↓Da, Ua, Ra, J2t, Ji, J0, J2, Jh, J4, J9U, *, ↓reduceIte, reduceEqDiff, reduceAdd, reduceLT, reduceMul, Nat.reduceBEq]
   rfl
  ·obtain ⟨r9, h10, h⟩ := bi h
   have f11 := J7T p h10
   try simp only [Nf, Ji, Jh] at f11
   try simp only [↓Da, Ua, Ra, J2t, Ji, J0, J2, Jh, J4, *, ↓reduceIte, reduceEqDiff, reduceAdd, reduceLT, reduceMul, Nat.reduceBEq]
   rcases Jc h with ⟨h12, h⟩ | ⟨h12, h⟩
   ·obtain rfl := sj h
    try simp only [↓Da, Ua, Ra, J2t, Ji, J0, J2, Jh, J4, J9U, *, ↓reduceIte, reduceEqDiff, reduceAdd, reduceLT, reduceMul, Nat.reduceBEq]
    rfl
   ·try simp only [↓Da, Ua, Ra, J2t, Ji, J0, J2, Jh, J4, *, ↓reduceIte, reduceEqDiff, reduceAdd, reduceLT, reduceMul, Nat.reduceBEq]
    rcases Jc h with ⟨h13, h⟩ | ⟨h13, h⟩
    ·obtain rfl := sj h
     try simp only [↓Da, Ua, Ra, J2t, Ji, J0, J2, Jh, J4, J9U, *, ↓reduceIte, reduceEqDiff, reduceAdd, reduceLT, reduceMul, Nat.reduceBEq]
     rfl
    ·obtain ⟨u15, h16, h⟩ := bi h
     have f14 := (Jfc h16).1
     try simp only [Nf, Ji, Jh] at f14
     obtain ⟨m17, h18, h⟩ := bi h
     have f19 : ∀ s : St, s.sto[3]? = some (.arr true 37 (List.map J7 x0.Frames)) → (J05 37 (.p (.sl 37 (List.map J7 ([(⟨x1, false, 0, true⟩ : T_api_Frame)] : List T_api_Frame))))).run s = some (List.map J7 ([(⟨x1, false, 0, true⟩ : T_api_Frame)] : List T_api_Frame)) → (J4S 37 424 (.slr 3 0 (List.length x0.Frames)) (.p (.sl 37 (List.map J7 ([(⟨x1, false, 0, true⟩ : T_api_Frame)] : List T_api_Frame))))).run s = some ⟨.slr 3 0 (List.length m17), [(3, .arr true 37 (List.map J7 m17))]⟩ := by
      intro s e1 e2; have e3 := JdY h18 e1 e2; try simp only [List.length_cons, List.length_nil, Nat.zero_add] at e3
      exact e3
     try simp only [Nf, Ji, Jh] at f19
     obtain rfl := sj h
     try simp only [↓Da, Ua, Ra, J2t, Ji, J0, J2, Jh, J4, J9U, *, ↓reduceIte, reduceEqDiff, reduceAdd, reduceLT, reduceMul, Nat.reduceBEq]
     rfl
 ·obtain rfl := sj h
  try simp only [↓Da, Ua, Ra, J2t, Ji, J0, J2, Jh, J4, J9U, *, ↓reduceIte, reduceEqDiff, reduceAdd, reduceLT, reduceMul, Nat.reduceBEq]
  rfl
theorem JoT {x0 : T_api_Pool} {x1 : T_api_Page} {o : T_api_Pool × Int} (h : J3M x0 x1 = some o) : AF (J6 p) J66 [.data (J3 x0), .data (J9 x1)] [] = Jia o :=
 (J0h (J6 p) (JoN p) rfl).trans (Jjo p h)
theorem Ji9 {x0 : T_api_Pool} {x1 : T_api_Page} {o : T_api_Pool × Int} (h : J3M x0 x1 = some o) : ∀ ws new st, (Jl (AF (J6 p)) J66 ([.data (J3 x0), .data (J9 x1)], ws) 0 new).run st = some ⟨.tup [.data (J3 o.1), .p (.i .i64 o.2)], ws⟩ := Jy rfl (JoT p h) rfl
def Jbl  (r : T_api_Pool × Int) : Option Res := some (.tup [.data (J3 r.1), .p (.i .i64 r.2)], [])
def J5h (x7 : Int) (b0 : T_api_Pool) (b1 : T_api_Page) (b2 : T_api_Pool) (b3 : T_api_Frame) : Option (T_api_Pool × Int) :=
 Option.bind (J3N b0 x7 (⟨b1, true, b3.Rec, true⟩ : T_api_Frame)) fun r1 =>
 some (r1, 0)
theorem JcT {x7 : Int} {b0 : T_api_Pool} {b1 : T_api_Page} {b2 : T_api_Pool} {b3 : T_api_Frame} {o : T_api_Pool × Int} (h : J5h x7 b0 b1 b2 b3 = some o) :
  rk (J6 p) J51 0 [] (X (J6 p) Jae ⟨[(2, .ptr 0 0), (3, .ptr 1 0), (4, .ptr 2 0), (7, .p (.i .i64 x7)), (8, .ptr 3 0)], [.box (List.map AV.p (J3 b0)), .box (List.map AV.p (J9 b1)), .box (List.map AV.p (J3 b2)), .box (List.map AV.p (J7 b3))]⟩) = Jbl o := by
 unfold J5h at h
 obtain ⟨r1, h2, h⟩ := bi h
 have f3 := Jbx p h2
 try simp only [Nf] at f3
 obtain rfl := sj h
 try simp only [↓Da, Ua, Jae, J5, J0, J2, J8, J4, J7J, *, ↓reduceIte, reduceEqDiff, reduceAdd, reduceLT, reduceMul]
 rfl
def J27 (x0 : T_api_Pool) (x1 : T_api_Page) : Option (T_api_Pool × Int) :=
 Option.bind (J0D x0) fun r1 =>
 if r1 then
  Option.bind (J3b x1) fun r5 =>
  if ((r5 : Int) != 0) then
   some ((⟨0, ([] : List T_api_Frame), 0⟩ : T_api_Pool), r5)
  else
   Option.bind (J1C x0 x1.ID) fun r9 =>
   if (decide (r9 < 0)) then
    some ((⟨0, ([] : List T_api_Frame), 0⟩ : T_api_Pool), 18)
   else
    Option.bind (idx x0.Frames r9) fun y13 =>
    if (decide (x1.LSN ≤ y13.Page.LSN)) then
     some ((⟨0, ([] : List T_api_Frame), 0⟩ : T_api_Pool), 8)
    else
     if y13.Dirty then
      J5h r9 x0 x1 (⟨0, ([] : List T_api_Frame), 0⟩ : T_api_Pool) y13
     else
      J5h r9 x0 x1 (⟨0, ([] : List T_api_Frame), 0⟩ : T_api_Pool) (⟨y13.Page, y13.Dirty, x1.LSN, y13.Used⟩ : T_api_Frame)
 else
  some ((⟨0, ([] : List T_api_Frame), 0⟩ : T_api_Pool), 15)
theorem Jg7 {x0 : T_api_Pool} {x1 : T_api_Page} {o : T_api_Pool × Int} (h : J27 x0 x1 = some o) :
  rk (J6 p) J51 0 [] (X (J6 p) J0N ⟨[(0, .data (J3 x0)), (1, .data (J9 x1))], []⟩) = Jbl o := by
 unfold J27 at h
 obtain ⟨r1, h2, h⟩ := bi h
 have f3 := J4P p h2
 try simp only [Nf] at f3
 try simp only [↓Da, Ua, J0N, J5, J0, J2, J8, J4, *, ↓reduceIte, reduceEqDiff, reduceAdd, reduceLT, reduceMul]
 rcases Jc h with ⟨h4, h⟩ | ⟨h4, h⟩
 ·obtain ⟨r5, h6, h⟩ := bi h
  have f7 := Jfg p h6
  try simp only [Nf] at f7
  try simp only [↓Da, Ua, J0N, J5, J0, J2, J8, J4, *, ↓reduceIte, reduceEqDiff, reduceAdd, reduceLT, reduceMul]
  rcases Jc h with ⟨h8, h⟩ | ⟨h8, h⟩
  ·obtain rfl := sj h
   try simp only [↓Da, Ua, J0N, J5, J0, J2, J8, J4, J7J, *, ↓reduceIte, reduceEqDiff, reduceAdd, reduceLT, reduceMul]
   rfl
  ·obtain ⟨r9, h10, h⟩ := bi h
   have f11 := J7T p h10
   try simp only [Nf] at f11
   try simp only [↓Da, Ua, J0N, J5, J0, J2, J8, J4, *, ↓reduceIte, reduceEqDiff, reduceAdd, reduceLT, reduceMul]
   rcases Jc h with ⟨h12, h⟩ | ⟨h12, h⟩
   ·obtain rfl := sj h
    try simp only [↓Da, Ua, J0N, J5, J0, J2, J8, J4, J7J, *, ↓reduceIte, reduceEqDiff, reduceAdd, reduceLT, reduceMul]
    rfl
   ·obtain ⟨y13, h14, h⟩ := bi h
    have f15 := J0f (r := J7) h14
    try simp only [Nf] at f15
    have f16 : sub (J7 y13) 1 1 = some ((r_i .i64) y13.Page.LSN) := by
     have e0 := (J2w (JQ y13) (J1p y13.Page))
     exact e0
    try simp only [Nf] at f16
    try simp only [↓Da, Ua, J0N, J5, J0, J2, J8, J4, *, ↓reduceIte, reduceEqDiff, reduceAdd, reduceLT, reduceMul]
    rcases Jc h with ⟨h17, h⟩ | ⟨h17, h⟩
    ·obtain rfl := sj h
     try simp only [↓Da, Ua, J0N, J5, J0, J2, J8, J4, J7J, *, ↓reduceIte, reduceEqDiff, reduceAdd, reduceLT, reduceMul]
     rfl
    ·try simp only [↓Da, Ua, J0N, J5, J0, J2, J8, J4, *, ↓reduceIte, reduceEqDiff, reduceAdd, reduceLT, reduceMul]
     rcases Jc h with ⟨h18, h⟩ | ⟨h18, h⟩
     ·try simp only [↓Da, Ua, J0N, J5, J0, J2, J8, J4, *, ↓reduceIte, reduceEqDiff, reduceAdd, reduceLT, reduceMul]
      have e0 := JcT p h
      first | exact e0 | (simp only [*] at e0; exact e0)
     ·try simp only [↓Da, Ua, J0N, J5, J0, J2, J8, J4, *, ↓reduceIte, reduceEqDiff, reduceAdd, reduceLT, reduceMul]
      have e0 := JcT p h
      first | exact e0 | (simp only [*] at e0; exact e0)
 ·obtain rfl := sj h
  try simp only [↓Da, Ua, J0N, J5, J0, J2, J8, J4, J7J, *, ↓reduceIte, reduceEqDiff, reduceAdd, reduceLT, reduceMul]
  rfl
theorem Jlg {x0 : T_api_Pool} {x1 : T_api_Page} {o : T_api_Pool × Int} (h : J27 x0 x1 = some o) : AF (J6 p) J56 [.data (J3 x0), .data (J9 x1)] [] = Jbl o :=
 (J0h (J6 p) (Jl6 p) rfl).trans (Jg7 p h)
theorem Je3 {x0 : T_api_Pool} {x1 : T_api_Page} {o : T_api_Pool × Int} (h : J27 x0 x1 = some o) : ∀ ws new st, (Jl (AF (J6 p)) J56 ([.data (J3 x0), .data (J9 x1)], ws) 0 new).run st = some ⟨.tup [.data (J3 o.1), .p (.i .i64 o.2)], ws⟩ := Jy rfl (Jlg p h) rfl
def Jfl  (r : Bool) : Option Res := some (.p (.b r), [])
def J5L  : Option (Bool) :=
 Option.bind (J4s 2) fun r1 =>
 Option.bind (J20 r1.1 (⟨1, 0, (Vector.replicate 16 (⟨false, []⟩ : Jk))⟩ : T_api_Page)) fun r4 =>
 Option.bind (J20 r4.1 (⟨2, 0, (Vector.replicate 16 (⟨false, []⟩ : Jk))⟩ : T_api_Page)) fun r7 =>
 Option.bind (J1z r7.1) fun r10 =>
 if ((r1.2 : Int) == 0) then
  if ((r4.2 : Int) == 0) then
   if ((r7.2 : Int) == 0) then
    if ((r10.2.2 : Int) == 0) then
     if ((r10.2.1 : Int) == 1) then
      if ((((List.length r10.1.Frames : Nat) : Int) : Int) == 2) then
       Option.bind (idx r10.1.Frames 0) fun y19 =>
       if y19.Used then
        some false
       else
        Option.bind (idx r10.1.Frames 1) fun y23 =>
        some (!y23.Used)
      else
       some false
     else
      some false
    else
     some false
   else
    some false
  else
   some false
 else
  some false
theorem Jhj  {o : Bool} (h : J5L = some o) :
  rk (J6 p) J6M 0 [] (X (J6 p) J0q ⟨[], []⟩) = Jfl o := by
 unfold J5L at h
 obtain ⟨r1, h2, h⟩ := bi h
 have f3 := JjS p h2
 try simp only [Nf] at f3
 obtain ⟨r4, h5, h⟩ := bi h
 have f6 := JeL p h5
 try simp only [Nf] at f6
 obtain ⟨r7, h8, h⟩ := bi h
 have f9 := JeL p h8
 try simp only [Nf] at f9
 obtain ⟨r10, h11, h⟩ := bi h
 have f12 := Jft p h11
 try simp only [Nf] at f12
 try simp only [↓Da, Ua, J0q, J5, J0, J2, J8, J4, *, ↓reduceIte, reduceEqDiff, reduceAdd, reduceLT, reduceMul]
 rcases Jc h with ⟨h13, h⟩ | ⟨h13, h⟩
 ·have h13n : ((r1.2 : Int) != 0) = false := by rw [bne, h13]; rfl
  try simp only [↓Da, Ua, J0q, J5, J0, J2, J8, J4, *, ↓reduceIte, reduceEqDiff, reduceAdd, reduceLT, reduceMul]
  rcases Jc h with ⟨h14, h⟩ | ⟨h14, h⟩
  ·have h14n : ((r4.2 : Int) != 0) = false := by rw [bne, h14]; rfl
   try simp only [↓Da, Ua, J0q, J5, J0, J2, J8, J4, *, ↓reduceIte, reduceEqDiff, reduceAdd, reduceLT, reduceMul]
   rcases Jc h with ⟨h15, h⟩ | ⟨h15, h⟩
   ·have h15n : ((r7.2 : Int) != 0) = false := by rw [bne, h15]; rfl
    try simp only [↓Da, Ua, J0q, J5, J0, J2, J8, J4, *, ↓reduceIte, reduceEqDiff, reduceAdd, reduceLT, reduceMul]
    rcases Jc h with ⟨h16, h⟩ | ⟨h16, h⟩
    ·have h16n : ((r10.2.2 : Int) != 0) = false := by rw [bne, h16]; rfl
     try simp only [↓Da, Ua, J0q, J5, J0, J2, J8, J4, *, ↓reduceIte, reduceEqDiff, reduceAdd, reduceLT, reduceMul]
     rcases Jc h with ⟨h17, h⟩ | ⟨h17, h⟩
     ·have h17n : ((r10.2.1 : Int) != 1) = false := by rw [bne, h17]; rfl
      try simp only [↓Da, Ua, J0q, J5, J0, J2, J8, J4, *, ↓reduceIte, reduceEqDiff, reduceAdd, reduceLT, reduceMul]
      rcases Jc h with ⟨h18, h⟩ | ⟨h18, h⟩
      ·have h18n : ((((List.length r10.1.Frames : Nat) : Int) : Int) != 2) = false := by rw [bne, h18]; rfl
       obtain ⟨y19, h20, h⟩ := bi h
       have f21 := J0f (r := J7) h20
       try simp only [Nf] at f21
       try simp only [↓Da, Ua, J0q, J5, J0, J2, J8, J4, *, ↓reduceIte, reduceEqDiff, reduceAdd, reduceLT, reduceMul]
       rcases Jc h with ⟨h22, h⟩ | ⟨h22, h⟩
       ·obtain rfl := sj h
        try simp only [↓Da, Ua, J0q, J5, J0, J2, J8, J4, J4N, *, ↓reduceIte, reduceEqDiff, reduceAdd, reduceLT, reduceMul]
        rfl
       ·obtain ⟨y23, h24, h⟩ := bi h
        have f25 := J0f (r := J7) h24
        try simp only [Nf] at f25
        obtain rfl := sj h
        try simp only [↓Da, Ua, J0q, J5, J0, J2, J8, J4, J4N, *, ↓reduceIte, reduceEqDiff, reduceAdd, reduceLT, reduceMul]
        rfl
      ·have h18n : ((((List.length r10.1.Frames : Nat) : Int) : Int) != 2) = true := by rw [bne, h18]; rfl
       obtain rfl := sj h
       try simp only [↓Da, Ua, J0q, J5, J0, J2, J8, J4, J4N, *, ↓reduceIte, reduceEqDiff, reduceAdd, reduceLT, reduceMul]
       rfl
     ·have h17n : ((r10.2.1 : Int) != 1) = true := by rw [bne, h17]; rfl
      obtain rfl := sj h
      try simp only [↓Da, Ua, J0q, J5, J0, J2, J8, J4, J4N, *, ↓reduceIte, reduceEqDiff, reduceAdd, reduceLT, reduceMul]
      rfl
    ·have h16n : ((r10.2.2 : Int) != 0) = true := by rw [bne, h16]; rfl
     obtain rfl := sj h
     try simp only [↓Da, Ua, J0q, J5, J0, J2, J8, J4, J4N, *, ↓reduceIte, reduceEqDiff, reduceAdd, reduceLT, reduceMul]
     rfl
   ·have h15n : ((r7.2 : Int) != 0) = true := by rw [bne, h15]; rfl
    obtain rfl := sj h
    try simp only [↓Da, Ua, J0q, J5, J0, J2, J8, J4, J4N, *, ↓reduceIte, reduceEqDiff, reduceAdd, reduceLT, reduceMul]
    rfl
  ·have h14n : ((r4.2 : Int) != 0) = true := by rw [bne, h14]; rfl
   obtain rfl := sj h
   try simp only [↓Da, Ua, J0q, J5, J0, J2, J8, J4, J4N, *, ↓reduceIte, reduceEqDiff, reduceAdd, reduceLT, reduceMul]
   rfl
 ·have h13n : ((r1.2 : Int) != 0) = true := by rw [bne, h13]; rfl
  obtain rfl := sj h
  try simp only [↓Da, Ua, J0q, J5, J0, J2, J8, J4, J4N, *, ↓reduceIte, reduceEqDiff, reduceAdd, reduceLT, reduceMul]
  rfl
theorem Jm9  {o : Bool} (h : J5L = some o) : AF (J6 p) J6J [] [] = Jfl o :=
 (J0h (J6 p) (JmC p) rfl).trans (Jhj p h)
theorem Jmf  {o : Bool} (h : J5L = some o) : ∀ ws new st, (Jl (AF (J6 p)) J6J ([], ws) 0 new).run st = some ⟨.p (.b o), ws⟩ := Jy rfl (Jm9 p h) rfl
end
end Go.Am
end
section
namespace Go.Am
set_option maxRecDepth 8000
set_option maxHeartbeats 4000000
set_option linter.unusedSimpArgs false
set_option linter.unusedVariables false
noncomputable section
variable (p : FuncId → Option (List AV → List Blk → Option Res))
def J4C  (r : T_api_Pool × T_pagemenddraw_Codes) : Option Res := some (.data (J3 r.1), [.box (List.map AV.p (J1 r.2))])
def Jb0 (b1 : T_api_Pool) (o : (Int × T_pagemenddraw_Codes × T_api_Pool) ⊕ (T_api_Pool × T_pagemenddraw_Codes)) : Option Res := match o with
 | .inl s => rk (J6 p) J0T 1 [.bl 0, .td 3 [2, 3], .sq (.keep [2, 3] J1U)] (X (J6 p) (.lp 3 [0, 2, 3, 5] JA) ⟨[(0, .ptr 0 0), (2, .ptr 1 0), (3, .ptr 2 0), (5, .p (.i .i64 s.1))], [.box (List.map AV.p (J1 s.2.1)), .box (List.map AV.p (J3 b1)), .box (List.map AV.p (J3 s.2.2))]⟩)
 | .inr o => J4C o
def J0n (x5 : Int) (b0 : T_pagemenddraw_Codes) (b1 b2 : T_api_Pool) : Option (((Int × T_pagemenddraw_Codes × T_api_Pool) ⊕ (T_api_Pool × T_pagemenddraw_Codes))) :=
 some (.inl ((IntKind.wrap .i64 (x5 - 1)), b0, b2))
theorem J1a {x5 : Int} {b0 : T_pagemenddraw_Codes} {b1 b2 : T_api_Pool} {o : ((Int × T_pagemenddraw_Codes × T_api_Pool) ⊕ (T_api_Pool × T_pagemenddraw_Codes))} (h : J0n x5 b0 b1 b2 = some o) :
  rk (J6 p) J0T 1 [.lo 3 [0, 2, 3, 5] JA, .bl 0, .td 3 [2, 3], .sq (.keep [2, 3] J1U)] (X (J6 p) J8H ⟨[(0, .ptr 0 0), (2, .ptr 1 0), (3, .ptr 2 0), (5, .p (.i .i64 x5))], [.box (List.map AV.p (J1 b0)), .box (List.map AV.p (J3 b1)), .box (List.map AV.p (J3 b2))]⟩) = (Jb0 p b1) o := by
 unfold J0n at h
 obtain rfl := sj h
 try simp only [↓Da, Ua, J8H, ↓reduceIte, reduceEqDiff, reduceAdd, reduceLT, reduceMul]
 rfl
def J6y (b0 : T_pagemenddraw_Codes) (b1 b2 : T_api_Pool) : Option (T_api_Pool × T_pagemenddraw_Codes) :=
 some (b2, b0)
theorem JfN {b0 : T_pagemenddraw_Codes} {b1 b2 : T_api_Pool} {o : T_api_Pool × T_pagemenddraw_Codes} (h : J6y b0 b1 b2 = some o) :
  rk (J6 p) J0T 1 [] (X (J6 p) J1U ⟨[(2, .ptr 1 0), (3, .ptr 2 0)], [.box (List.map AV.p (J1 b0)), .box (List.map AV.p (J3 b1)), .box (List.map AV.p (J3 b2))]⟩) = J4C o := by
 unfold J6y at h
 obtain rfl := sj h
 try simp only [↓Da, Ua, J1U, J5, J0, J2, J8, J4, Jhs, ↓reduceIte, reduceEqDiff, reduceAdd, reduceLT, reduceMul]
 rfl
def J1V (b1 : T_api_Pool) (x5 : Int) (b0 : T_pagemenddraw_Codes) (b2 : T_api_Pool) : Option (((Int × T_pagemenddraw_Codes × T_api_Pool) ⊕ (T_api_Pool × T_pagemenddraw_Codes))) :=
 if (decide (x5 > 0)) then
  Option.bind (Jp b0 6) fun r2 =>
  Option.bind (Jp r2.2 5) fun r5 =>
  if ((r5.1 : Int) == 0) then
   Option.bind (J2A b2) fun r9 =>
   if ((r9.2.2 : Int) == 0) then
    J0n x5 r5.2 b1 r9.1
   else
    J0n x5 r5.2 b1 b2
  else
   if ((r5.1 : Int) == 1) then
    Option.bind (J3P b2 r2.1) fun r14 =>
    if r14.2 then
     Option.bind (Jp r5.2 3) fun r18 =>
     Option.bind (J27 b2 (⟨r14.1.ID, (IntKind.wrap .i64 (r14.1.LSN + (IntKind.wrap .i64 (1 + r18.1)))), r14.1.Cells⟩ : T_api_Page)) fun r22 =>
     if ((r22.2 : Int) == 0) then
      J0n x5 r18.2 b1 r22.1
     else
      J0n x5 r18.2 b1 b2
    else
     J0n x5 r5.2 b1 b2
   else
    if ((r5.1 : Int) == 2) then
     Option.bind (J3P b2 r2.1) fun r27 =>
     if r27.2 then
      Option.bind (Jp r5.2 2) fun r31 =>
      Option.bind (J3c b2 r2.1 (IntKind.wrap .i64 (r27.1.LSN - r31.1))) fun r35 =>
      if ((r35.2 : Int) == 0) then
       J0n x5 r31.2 b1 r35.1
      else
       J0n x5 r31.2 b1 b2
     else
      J0n x5 r5.2 b1 b2
    else
     Option.bind (J3s r5.2 r2.1) fun r40 =>
     Option.bind (J3M b2 r40.1) fun r44 =>
     if ((r44.2 : Int) == 0) then
      J0n x5 r40.2 b1 r44.1
     else
      J0n x5 r40.2 b1 b2
 else
  Option.map (fun o => .inr o) (J6y b0 b1 b2)
theorem Jb7 {b1 : T_api_Pool} {x5 : Int} {b0 : T_pagemenddraw_Codes} {b2 : T_api_Pool} {o : ((Int × T_pagemenddraw_Codes × T_api_Pool) ⊕ (T_api_Pool × T_pagemenddraw_Codes))} (h : J1V b1 x5 b0 b2 = some o) :
  rk (J6 p) J0T 1 [.lo 3 [0, 2, 3, 5] JA, .bl 0, .td 3 [2, 3], .sq (.keep [2, 3] J1U)] (X (J6 p) JA ⟨[(0, .ptr 0 0), (2, .ptr 1 0), (3, .ptr 2 0), (5, .p (.i .i64 x5))], [.box (List.map AV.p (J1 b0)), .box (List.map AV.p (J3 b1)), .box (List.map AV.p (J3 b2))]⟩) = (Jb0 p b1) o := by
 unfold J1V at h
 rcases Jc h with ⟨h1, h⟩ | ⟨h1, h⟩
 ·obtain ⟨r2, h3, h⟩ := bi h
  have f4 : ∀ ws new s, JC ws s [0] [List.map AV.p (J1 b0)] → (Jl (AF (J6 p)) Jd ([.ptr 0 0, .p (.i .i64 6)], ws) 0 new).run s = some ⟨.p (.i .i64 r2.1), ws ++ [(0, .box (List.map AV.p (J1 r2.2)))]⟩ := Jv (args' := [.ptr 0 0, .p (.i .i64 6)]) (bs := [0]) (css := [List.map AV.p (J1 b0)]) (css' := [List.map AV.p (J1 r2.2)]) rfl rfl rfl (by simp [Jg, Ja]) (Ju p h3) rfl rfl (by simp [Jg, Ja])
  try simp only [Nf] at f4
  obtain ⟨r5, h6, h⟩ := bi h
  have f7 : ∀ ws new s, JC ws s [0] [List.map AV.p (J1 r2.2)] → (Jl (AF (J6 p)) Jd ([.ptr 0 0, .p (.i .i64 5)], ws) 0 new).run s = some ⟨.p (.i .i64 r5.1), ws ++ [(0, .box (List.map AV.p (J1 r5.2)))]⟩ := Jv (args' := [.ptr 0 0, .p (.i .i64 5)]) (bs := [0]) (css := [List.map AV.p (J1 r2.2)]) (css' := [List.map AV.p (J1 r5.2)]) rfl rfl rfl (by simp [Jg, Ja]) (Ju p h6) rfl rfl (by simp [Jg, Ja])
  try simp only [Nf] at f7
  try simp only [↓Da, Ua, Ra, JA, J5, J0, J2, J8, Jb, J4, *, ↓reduceIte, reduceEqDiff, reduceAdd, reduceLT, reduceMul, Nat.reduceBEq]
  rcases Jc h with ⟨h8, h⟩ | ⟨h8, h⟩
  ·have h8n : ((r5.1 : Int) != 0) = false := by rw [bne, h8]; rfl
   obtain ⟨r9, h10, h⟩ := bi h
   have f11 := Jej p h10
   try simp only [Nf] at f11
   try simp only [↓Da, Ua, Ra, JA, J5, J0, J2, J8, Jb, J4, *, ↓reduceIte, reduceEqDiff, reduceAdd, reduceLT, reduceMul, Nat.reduceBEq]
   rcases Jc h with ⟨h12, h⟩ | ⟨h12, h⟩
   ·have h12n : ((r9.2.2 : Int) != 0) = false := by rw [bne, h12]; rfl
    try simp only [↓Da, Ua, Ra, JA, J5, J0, J2, J8, Jb, J4, *, ↓reduceIte, reduceEqDiff, reduceAdd, reduceLT, reduceMul, Nat.reduceBEq]
    have e0 := J1a p h
    first | exact e0 | (simp only [*] at e0; exact e0)
   ·have h12n : ((r9.2.2 : Int) != 0) = true := by rw [bne, h12]; rfl
    try simp only [↓Da, Ua, Ra, JA, J5, J0, J2, J8, Jb, J4, *, ↓reduceIte, reduceEqDiff, reduceAdd, reduceLT, reduceMul, Nat.reduceBEq]
    have e0 := J1a p h
    first | exact e0 | (simp only [*] at e0; exact e0)
  ·have h8n : ((r5.1 : Int) != 0) = true := by rw [bne, h8]; rfl
   try simp only [↓Da, Ua, Ra, JA, J5, J0, J2, J8, Jb, J4, *, ↓reduceIte, reduceEqDiff, reduceAdd, reduceLT, reduceMul, Nat.reduceBEq]
   rcases Jc h with ⟨h13, h⟩ | ⟨h13, h⟩
   ·have h13n : ((r5.1 : Int) != 1) = false := by rw [bne, h13]; rfl
    obtain ⟨r14, h15, h⟩ := bi h
    have f16 := Jdw p h15
    try simp only [Nf] at f16
    try simp only [↓Da, Ua, Ra, JA, J5, J0, J2, J8, Jb, J4, *, ↓reduceIte, reduceEqDiff, reduceAdd, reduceLT, reduceMul, Nat.reduceBEq]
    rcases Jc h with ⟨h17, h⟩ | ⟨h17, h⟩
    ·obtain ⟨r18, h19, h⟩ := bi h
     have f20 : ∀ ws new s, JC ws s [0] [List.map AV.p (J1 r5.2)] → (Jl (AF (J6 p)) Jd ([.ptr 0 0, .p (.i .i64 3)], ws) 0 new).run s = some ⟨.p (.i .i64 r18.1), ws ++ [(0, .box (List.map AV.p (J1 r18.2)))]⟩ := Jv (args' := [.ptr 0 0, .p (.i .i64 3)]) (bs := [0]) (css := [List.map AV.p (J1 r5.2)]) (css' := [List.map AV.p (J1 r18.2)]) rfl rfl rfl (by simp [Jg, Ja]) (Ju p h19) rfl rfl (by simp [Jg, Ja])
     try simp only [Nf] at f20
     have f21 : ∀ ws k new s, JC ws s [0] [List.map AV.p (J1 r5.2)] → Jf ((Jl (AF (J6 p)) Jd ([.ptr 0 0, .p (.i .i64 3)], ws) k new).reads s) = [0] ++ ([0] ++ [0]) := J2D (args' := [.ptr 0 0, .p (.i .i64 3)]) (bs := [0]) (css := [List.map AV.p (J1 r5.2)]) rfl rfl rfl (by simp [Jg, Ja])
     try simp only [Nf] at f21
     obtain ⟨r22, h23, h⟩ := bi h
     have f24 := Je3 p h23
     try simp only [Nf] at f24
     try simp only [↓Da, Ua, Ra, JA, J5, J0, J2, J8, Jb, J4, *, ↓reduceIte, reduceEqDiff, reduceAdd, reduceLT, reduceMul, Nat.reduceBEq]
     rcases Jc h with ⟨h25, h⟩ | ⟨h25, h⟩
     ·have h25n : ((r22.2 : Int) != 0) = false := by rw [bne, h25]; rfl
      try simp only [↓Da, Ua, Ra, JA, J5, J0, J2, J8, Jb, J4, *, ↓reduceIte, reduceEqDiff, reduceAdd, reduceLT, reduceMul, Nat.reduceBEq]
      have e0 := J1a p h
      first | exact e0 | (simp only [*] at e0; exact e0)
     ·have h25n : ((r22.2 : Int) != 0) = true := by rw [bne, h25]; rfl
      try simp only [↓Da, Ua, Ra, JA, J5, J0, J2, J8, Jb, J4, *, ↓reduceIte, reduceEqDiff, reduceAdd, reduceLT, reduceMul, Nat.reduceBEq]
      have e0 := J1a p h
      first | exact e0 | (simp only [*] at e0; exact e0)
    ·try simp only [↓Da, Ua, Ra, JA, J5, J0, J2, J8, Jb, J4, *, ↓reduceIte, reduceEqDiff, reduceAdd, reduceLT, reduceMul, Nat.reduceBEq]
     have e0 := J1a p h
     first | exact e0 | (simp only [*] at e0; exact e0)
   ·have h13n : ((r5.1 : Int) != 1) = true := by rw [bne, h13]; rfl
    try simp only [↓Da, Ua, Ra, JA, J5, J0, J2, J8, Jb, J4, *, ↓reduceIte, reduceEqDiff, reduceAdd, reduceLT, reduceMul, Nat.reduceBEq]
    rcases Jc h with ⟨h26, h⟩ | ⟨h26, h⟩
    ·have h26n : ((r5.1 : Int) != 2) = false := by rw [bne, h26]; rfl
     obtain ⟨r27, h28, h⟩ := bi h
     have f29 := Jdw p h28
     try simp only [Nf] at f29
     try simp only [↓Da, Ua, Ra, JA, J5, J0, J2, J8, Jb, J4, *, ↓reduceIte, reduceEqDiff, reduceAdd, reduceLT, reduceMul, Nat.reduceBEq]
     rcases Jc h with ⟨h30, h⟩ | ⟨h30, h⟩
     ·obtain ⟨r31, h32, h⟩ := bi h
      have f33 : ∀ ws new s, JC ws s [0] [List.map AV.p (J1 r5.2)] → (Jl (AF (J6 p)) Jd ([.ptr 0 0, .p (.i .i64 2)], ws) 0 new).run s = some ⟨.p (.i .i64 r31.1), ws ++ [(0, .box (List.map AV.p (J1 r31.2)))]⟩ := Jv (args' := [.ptr 0 0, .p (.i .i64 2)]) (bs := [0]) (css := [List.map AV.p (J1 r5.2)]) (css' := [List.map AV.p (J1 r31.2)]) rfl rfl rfl (by simp [Jg, Ja]) (Ju p h32) rfl rfl (by simp [Jg, Ja])
      try simp only [Nf] at f33
      have f34 : ∀ ws k new s, JC ws s [0] [List.map AV.p (J1 r5.2)] → Jf ((Jl (AF (J6 p)) Jd ([.ptr 0 0, .p (.i .i64 2)], ws) k new).reads s) = [0] ++ ([0] ++ [0]) := J2D (args' := [.ptr 0 0, .p (.i .i64 2)]) (bs := [0]) (css := [List.map AV.p (J1 r5.2)]) rfl rfl rfl (by simp [Jg, Ja])
      try simp only [Nf] at f34
      obtain ⟨r35, h36, h⟩ := bi h
      have f37 := Jfi p h36
      try simp only [Nf] at f37
      have f38 : ∀ ws k new s, Jf ((Jl (AF (J6 p)) J4O ([.data (J3 b2), .p (.i .i64 r2.1), .p (.i .i64 (IntKind.wrap .i64 (r27.1.LSN - r31.1)))], ws) k new).reads s) = [] := JP rfl
      try simp only [Nf] at f38
      try simp only [↓Da, Ua, Ra, JA, J5, J0, J2, J8, Jb, J4, *, ↓reduceIte, reduceEqDiff, reduceAdd, reduceLT, reduceMul, Nat.reduceBEq]
      rcases Jc h with ⟨h39, h⟩ | ⟨h39, h⟩
      ·have h39n : ((r35.2 : Int) != 0) = false := by rw [bne, h39]; rfl
       try simp only [↓Da, Ua, Ra, JA, J5, J0, J2, J8, Jb, J4, *, ↓reduceIte, reduceEqDiff, reduceAdd, reduceLT, reduceMul, Nat.reduceBEq]
       have e0 := J1a p h
       first | exact e0 | (simp only [*] at e0; exact e0)
      ·have h39n : ((r35.2 : Int) != 0) = true := by rw [bne, h39]; rfl
       try simp only [↓Da, Ua, Ra, JA, J5, J0, J2, J8, Jb, J4, *, ↓reduceIte, reduceEqDiff, reduceAdd, reduceLT, reduceMul, Nat.reduceBEq]
       have e0 := J1a p h
       first | exact e0 | (simp only [*] at e0; exact e0)
     ·try simp only [↓Da, Ua, Ra, JA, J5, J0, J2, J8, Jb, J4, *, ↓reduceIte, reduceEqDiff, reduceAdd, reduceLT, reduceMul, Nat.reduceBEq]
      have e0 := J1a p h
      first | exact e0 | (simp only [*] at e0; exact e0)
    ·have h26n : ((r5.1 : Int) != 2) = true := by rw [bne, h26]; rfl
     obtain ⟨r40, h41, h⟩ := bi h
     have f42 : ∀ ws new s, JC ws s [0] [List.map AV.p (J1 r5.2)] → (Jl (AF (J6 p)) J1v ([.ptr 0 0, .p (.i .i64 r2.1)], ws) 0 new).run s = some ⟨.data (J9 r40.1), ws ++ [(0, .box (List.map AV.p (J1 r40.2)))]⟩ := Jv (args' := [.ptr 0 0, .p (.i .i64 r2.1)]) (bs := [0]) (css := [List.map AV.p (J1 r5.2)]) (css' := [List.map AV.p (J1 r40.2)]) rfl rfl rfl (by simp [Jg, Ja]) (JbZ p h41) rfl rfl (by simp [Jg, Ja])
     try simp only [Nf] at f42
     have f43 : ∀ ws k new s, JC ws s [0] [List.map AV.p (J1 r5.2)] → Jf ((Jl (AF (J6 p)) J1v ([.ptr 0 0, .p (.i .i64 r2.1)], ws) k new).reads s) = [0] ++ ([0] ++ [0]) := J2D (args' := [.ptr 0 0, .p (.i .i64 r2.1)]) (bs := [0]) (css := [List.map AV.p (J1 r5.2)]) rfl rfl rfl (by simp [Jg, Ja])
     try simp only [Nf] at f43
     obtain ⟨r44, h45, h⟩ := bi h
     have f46 := Ji9 p h45
     try simp only [Nf] at f46
     have f47 : ∀ ws k new s, Jf ((Jl (AF (J6 p)) J66 ([.data (J3 b2), .data (J9 r40.1)], ws) k new).reads s) = [] := JP rfl
     try simp only [Nf] at f47
     try simp only [↓Da, Ua, Ra, JA, J5, J0, J2, J8, Jb, J4, *, ↓reduceIte, reduceEqDiff, reduceAdd, reduceLT, reduceMul, Nat.reduceBEq]
     rcases Jc h with ⟨h48, h⟩ | ⟨h48, h⟩
     ·have h48n : ((r44.2 : Int) != 0) = false := by rw [bne, h48]; rfl
      try simp only [↓Da, Ua, Ra, JA, J5, J0, J2, J8, Jb, J4, *, ↓reduceIte, reduceEqDiff, reduceAdd, reduceLT, reduceMul, Nat.reduceBEq]
      have e0 := J1a p h
      first | exact e0 | (simp only [*] at e0; exact e0)
     ·have h48n : ((r44.2 : Int) != 0) = true := by rw [bne, h48]; rfl
      try simp only [↓Da, Ua, Ra, JA, J5, J0, J2, J8, Jb, J4, *, ↓reduceIte, reduceEqDiff, reduceAdd, reduceLT, reduceMul, Nat.reduceBEq]
      have e0 := J1a p h
      first | exact e0 | (simp only [*] at e0; exact e0)
 ·obtain ⟨o', h', rfl⟩ := mi h
  try simp only [↓Da, Ua, Ra, JA, J5, J0, J2, J8, Jb, J4, *, ↓reduceIte, reduceEqDiff, reduceAdd, reduceLT, reduceMul, Nat.reduceBEq]
  have e0 := JfN p h'
  first | exact e0 | (simp only [*] at e0; exact e0)
def Jb2 (b1 : T_api_Pool) (s : Int × T_pagemenddraw_Codes × T_api_Pool) : Option (T_api_Pool × T_pagemenddraw_Codes) :=
 JO (fun s => J1V b1 s.1 s.2.1 s.2.2) s
theorem Je8 {b1 : T_api_Pool} {s : Int × T_pagemenddraw_Codes × T_api_Pool} {o : T_api_Pool × T_pagemenddraw_Codes} (h : Jb2 b1 s = some o) :
  rk (J6 p) J0T 1 [.bl 0, .td 3 [2, 3], .sq (.keep [2, 3] J1U)] (X (J6 p) (.lp 3 [0, 2, 3, 5] JA) ⟨[(0, .ptr 0 0), (2, .ptr 1 0), (3, .ptr 2 0), (5, .p (.i .i64 s.1))], [.box (List.map AV.p (J1 s.2.1)), .box (List.map AV.p (J3 b1)), .box (List.map AV.p (J3 s.2.2))]⟩) = J4C o := by
 have h0 : JO (fun s => J1V b1 s.1 s.2.1 s.2.2) s = some o := h
 exact J0M (P := fun (s : Int × T_pagemenddraw_Codes × T_api_Pool) (o : T_api_Pool × T_pagemenddraw_Codes) => rk (J6 p) J0T 1 [.bl 0, .td 3 [2, 3], .sq (.keep [2, 3] J1U)] (X (J6 p) (.lp 3 [0, 2, 3, 5] JA) ⟨[(0, .ptr 0 0), (2, .ptr 1 0), (3, .ptr 2 0), (5, .p (.i .i64 s.1))], [.box (List.map AV.p (J1 s.2.1)), .box (List.map AV.p (J3 b1)), .box (List.map AV.p (J3 s.2.2))]⟩) = J4C o) (fun s r hs => by rw [J0w]; exact Jb7 p hs) (fun s s1 r hs ih => by rw [J0w]; exact (Jb7 p hs).trans ih) h0
def J3o (b0 : T_pagemenddraw_Codes) : Option (T_api_Pool × T_pagemenddraw_Codes) :=
 Option.bind (Jp b0 5) fun r1 =>
 Option.bind (J64 (IntKind.wrap .i64 (1 + r1.1))) fun r4 =>
 Option.bind (Jp r1.2 10) fun r7 =>
 Jb2 (⟨0, ([] : List T_api_Frame), 0⟩ : T_api_Pool) (r7.1, r7.2, r4.1)
theorem JdU {b0 : T_pagemenddraw_Codes} {o : T_api_Pool × T_pagemenddraw_Codes} (h : J3o b0 = some o) :
  rk (J6 p) J0T 1 [] (X (J6 p) J5S ⟨[(0, .ptr 0 0)], [.box (List.map AV.p (J1 b0))]⟩) = J4C o := by
 unfold J3o at h
 obtain ⟨r1, h2, h⟩ := bi h
 have f3 : ∀ ws new s, JC ws s [0] [List.map AV.p (J1 b0)] → (Jl (AF (J6 p)) Jd ([.ptr 0 0, .p (.i .i64 5)], ws) 0 new).run s = some ⟨.p (.i .i64 r1.1), ws ++ [(0, .box (List.map AV.p (J1 r1.2)))]⟩ := Jv (args' := [.ptr 0 0, .p (.i .i64 5)]) (bs := [0]) (css := [List.map AV.p (J1 b0)]) (css' := [List.map AV.p (J1 r1.2)]) rfl rfl rfl (by simp [Jg, Ja]) (Ju p h2) rfl rfl (by simp [Jg, Ja])
 try simp only [Nf] at f3
 obtain ⟨r4, h5, h⟩ := bi h
 have f6 := Ji5 p h5
 try simp only [Nf] at f6
 obtain ⟨r7, h8, h⟩ := bi h
 have f9 : ∀ ws new s, JC ws s [0] [List.map AV.p (J1 r1.2)] → (Jl (AF (J6 p)) Jd ([.ptr 0 0, .p (.i .i64 10)], ws) 0 new).run s = some ⟨.p (.i .i64 r7.1), ws ++ [(0, .box (List.map AV.p (J1 r7.2)))]⟩ := Jv (args' := [.ptr 0 0, .p (.i .i64 10)]) (bs := [0]) (css := [List.map AV.p (J1 r1.2)]) (css' := [List.map AV.p (J1 r7.2)]) rfl rfl rfl (by simp [Jg, Ja]) (Ju p h8) rfl rfl (by simp [Jg, Ja])
 try simp only [Nf] at f9
 try simp only [↓Da, Ua, J5S, J5, J0, J2, J8, Jb, J4, *, ↓reduceIte, reduceEqDiff, reduceAdd, reduceLT, reduceMul]
 have e0 := Je8 p h
 first | exact e0 | (simp only [*] at e0; exact e0)
theorem JhD {b0 : T_pagemenddraw_Codes} {o : T_api_Pool × T_pagemenddraw_Codes} (h : J3o b0 = some o) : AF (J6 p) J4A [.ptr 0 0] [.box (List.map AV.p (J1 b0))] = J4C o :=
 (J0h (J6 p) (Jhc p) rfl).trans (JdU p h)
def J4G  (r : Bool) : Option Res := some (.p (.b r), [])
def J3L (x3 x4 : Int) (x60 : List T_api_Pool) (x61 : Int) (b1 : T_api_Page) (B0 B3 : List PV) (o : (Int × T_pagemenddraw_Codes) ⊕ (Bool)) : Option Res := match o with
 | .inl s => rk (J6 p) JD 0 [.bl 0, .td 4 [3, 10], .sq (.keep [3] JB)] (X (J6 p) (.lp 4 [3, 4, 7, 11, 60, 61, 62] Jw) ⟨[(3, .p (.i .i64 x3)), (4, .p (.i .i64 x4)), (7, .ptr 1 0), (11, .ptr 2 0), (60, .p (.sl 3 (List.map J3 x60))), (61, .p (.i .i64 x61)), (62, .p (.i .i64 s.1))], [.box (List.map AV.p B0), .box (List.map AV.p (J9 b1)), .box (List.map AV.p (J1 s.2)), .box (List.map AV.p B3)]⟩)
 | .inr o => J4G o
def J1r (x3 x4 : Int) (x60 : List T_api_Pool) (x61 x62 : Int) (x82 : List Int) (x83 : Int) (b1 : T_api_Page) (b4 : T_api_Pool) (B0 B3 : List PV) (o : (Int × T_pagemenddraw_Codes) ⊕ (((Int × T_pagemenddraw_Codes) ⊕ (Bool)))) : Option Res := match o with
 | .inl s => rk (J6 p) JD 0 [.bl 2, .td 5 [3, 4, 7, 10, 11, 14, 60, 61, 62], .sq (.keep [3, 4, 7, 11, 14, 60, 61, 62] JG), .bl 1, .td 4 [3, 4, 7, 10, 11, 60, 61, 62], .sq (.keep [3, 4, 7, 11, 60, 61, 62] JV), .lo 4 [3, 4, 7, 11, 60, 61, 62] Jw, .bl 0, .td 4 [3, 10], .sq (.keep [3] JB)] (X (J6 p) (.lp 5 [3, 4, 7, 11, 14, 60, 61, 62, 82, 83, 84] Js) ⟨[(3, .p (.i .i64 x3)), (4, .p (.i .i64 x4)), (7, .ptr 1 0), (11, .ptr 2 0), (14, .ptr 4 0), (60, .p (.sl 3 (List.map J3 x60))), (61, .p (.i .i64 x61)), (62, .p (.i .i64 x62)), (82, .p (.sl 1 (List.map (r_i .i64) x82))), (83, .p (.i .i64 x83)), (84, .p (.i .i64 s.1))], [.box (List.map AV.p B0), .box (List.map AV.p (J9 b1)), .box (List.map AV.p (J1 s.2)), .box (List.map AV.p B3), .box (List.map AV.p (J3 b4))]⟩)
 | .inr o => (J3L p x3 x4 x60 x61 b1 B0 B3) o
def JfE (x3 x4 x16 : Int) (x60 : List T_api_Pool) (x61 x62 : Int) (x82 : List Int) (x83 x84 : Int) (x154 : List Int) (x155 : Int) (b1 : T_api_Page) (b2 : T_pagemenddraw_Codes) (b4 : T_api_Pool) (b6 : T_api_Page) (B0 B3 B5 : List PV) (o : (Int × T_api_Pool × T_api_Pool) ⊕ (((Int × T_pagemenddraw_Codes) ⊕ (((Int × T_pagemenddraw_Codes) ⊕ (Bool)))))) : Option Res := match o with
 | .inl s => rk (J6 p) JD 0 [.bl 4, .sq (.keep [3, 4, 7, 11, 14, 16, 19, 21, 23, 60, 61, 62, 82, 83, 84] J2H), .bl 3, .td 5 [3, 4, 7, 10, 11, 14, 60, 61, 62, 82, 83, 84], .sq (.keep [3, 4, 7, 11, 14, 60, 61, 62, 82, 83, 84] J0v), .lo 5 [3, 4, 7, 11, 14, 60, 61, 62, 82, 83, 84] Js, .bl 2, .td 5 [3, 4, 7, 10, 11, 14, 60, 61, 62], .sq (.keep [3, 4, 7, 11, 14, 60, 61, 62] JG), .bl 1, .td 4 [3, 4, 7, 10, 11, 60, 61, 62], .sq (.keep [3, 4, 7, 11, 60, 61, 62] JV), .lo 4 [3, 4, 7, 11, 60, 61, 62] Jw, .bl 0, .td 4 [3, 10], .sq (.keep [3] JB)] (X (J6 p) (.lp 9 [3, 4, 7, 11, 14, 16, 19, 21, 23, 60, 61, 62, 82, 83, 84, 154, 155, 156] J0u) ⟨[(3, .p (.i .i64 x3)), (4, .p (.i .i64 x4)), (7, .ptr 1 0), (11, .ptr 2 0), (14, .ptr 4 0), (16, .p (.i .i64 x16)), (19, .ptr 6 0), (21, .ptr 7 0), (23, .ptr 8 0), (60, .p (.sl 3 (List.map J3 x60))), (61, .p (.i .i64 x61)), (62, .p (.i .i64 x62)), (82, .p (.sl 1 (List.map (r_i .i64) x82))), (83, .p (.i .i64 x83)), (84, .p (.i .i64 x84)), (154, .p (.sl 1 (List.map (r_i .i64) x154))), (155, .p (.i .i64 x155)), (156, .p (.i .i64 s.1))], [.box (List.map AV.p B0), .box (List.map AV.p (J9 b1)), .box (List.map AV.p (J1 b2)), .box (List.map AV.p B3), .box (List.map AV.p (J3 b4)), .box (List.map AV.p B5), .box (List.map AV.p (J9 b6)), .box (List.map AV.p (J3 s.2.1)), .box (List.map AV.p (J3 s.2.2))]⟩)
 | .inr o => (J1r p x3 x4 x60 x61 x62 x82 x83 b1 b4 B0 B3) o
def JfT (x3 x4 : Int) (x60 : List T_api_Pool) (x61 x62 : Int) (x82 : List Int) (x83 x84 : Int) (x197 : List T_api_Page) (x198 : Int) (b1 : T_api_Page) (b2 : T_pagemenddraw_Codes) (b4 : T_api_Pool) (B0 B3 : List PV) (B5 B6 : List PV) (o : (Int × T_api_Pool × T_api_Pool) ⊕ (((Int × T_pagemenddraw_Codes) ⊕ (((Int × T_pagemenddraw_Codes) ⊕ (Bool)))))) : Option Res := match o with
 | .inl s => rk (J6 p) JD 0 [.bl 6, .bl 3, .td 5 [3, 4, 7, 10, 11, 14, 60, 61, 62, 82, 83, 84], .sq (.keep [3, 4, 7, 11, 14, 60, 61, 62, 82, 83, 84] J0v), .lo 5 [3, 4, 7, 11, 14, 60, 61, 62, 82, 83, 84] Js, .bl 2, .td 5 [3, 4, 7, 10, 11, 14, 60, 61, 62], .sq (.keep [3, 4, 7, 11, 14, 60, 61, 62] JG), .bl 1, .td 4 [3, 4, 7, 10, 11, 60, 61, 62], .sq (.keep [3, 4, 7, 11, 60, 61, 62] JV), .lo 4 [3, 4, 7, 11, 60, 61, 62] Jw, .bl 0, .td 4 [3, 10], .sq (.keep [3] JB)] (X (J6 p) (.lp 9 [3, 4, 7, 11, 14, 21, 23, 60, 61, 62, 82, 83, 84, 197, 198, 199] J02) ⟨[(3, .p (.i .i64 x3)), (4, .p (.i .i64 x4)), (7, .ptr 1 0), (11, .ptr 2 0), (14, .ptr 4 0), (21, .ptr 7 0), (23, .ptr 8 0), (60, .p (.sl 3 (List.map J3 x60))), (61, .p (.i .i64 x61)), (62, .p (.i .i64 x62)), (82, .p (.sl 1 (List.map (r_i .i64) x82))), (83, .p (.i .i64 x83)), (84, .p (.i .i64 x84)), (197, .p (.sl 34 (List.map J9 x197))), (198, .p (.i .i64 x198)), (199, .p (.i .i64 s.1))], [.box (List.map AV.p B0), .box (List.map AV.p (J9 b1)), .box (List.map AV.p (J1 b2)), .box (List.map AV.p B3), .box (List.map AV.p (J3 b4)), .box (List.map AV.p B5), .box (List.map AV.p B6), .box (List.map AV.p (J3 s.2.1)), .box (List.map AV.p (J3 s.2.2))]⟩)
 | .inr o => (J1r p x3 x4 x60 x61 x62 x82 x83 b1 b4 B0 B3) o
def J6u (x3 x4 : Int) (x60 : List T_api_Pool) (x61 x62 : Int) (x82 : List Int) (x83 x84 : Int) (b1 : T_api_Page) (b2 : T_pagemenddraw_Codes) (b4 : T_api_Pool) : Option (((Int × T_pagemenddraw_Codes) ⊕ (((Int × T_pagemenddraw_Codes) ⊕ (Bool))))) :=
 some (.inl ((IntKind.wrap .i64 (x84 + 1)), b2))
theorem JfQ {x3 x4 : Int} {x60 : List T_api_Pool} {x61 x62 : Int} {x82 : List Int} {x83 x84 : Int} {b1 : T_api_Page} {b2 : T_pagemenddraw_Codes} {b4 : T_api_Pool} {B0 B3 : List PV} {o : ((Int × T_pagemenddraw_Codes) ⊕ (((Int × T_pagemenddraw_Codes) ⊕ (Bool))))} (h : J6u x3 x4 x60 x61 x62 x82 x83 x84 b1 b2 b4 = some o) :
  rk (J6 p) JD 0 [.lo 5 [3, 4, 7, 11, 14, 60, 61, 62, 82, 83, 84] Js, .bl 2, .td 5 [3, 4, 7, 10, 11, 14, 60, 61, 62], .sq (.keep [3, 4, 7, 11, 14, 60, 61, 62] JG), .bl 1, .td 4 [3, 4, 7, 10, 11, 60, 61, 62], .sq (.keep [3, 4, 7, 11, 60, 61, 62] JV), .lo 4 [3, 4, 7, 11, 60, 61, 62] Jw, .bl 0, .td 4 [3, 10], .sq (.keep [3] JB)] (X (J6 p) J0v ⟨[(3, .p (.i .i64 x3)), (4, .p (.i .i64 x4)), (7, .ptr 1 0), (11, .ptr 2 0), (14, .ptr 4 0), (60, .p (.sl 3 (List.map J3 x60))), (61, .p (.i .i64 x61)), (62, .p (.i .i64 x62)), (82, .p (.sl 1 (List.map (r_i .i64) x82))), (83, .p (.i .i64 x83)), (84, .p (.i .i64 x84))], [.box (List.map AV.p B0), .box (List.map AV.p (J9 b1)), .box (List.map AV.p (J1 b2)), .box (List.map AV.p B3), .box (List.map AV.p (J3 b4))]⟩) = (J1r p x3 x4 x60 x61 x62 x82 x83 b1 b4 B0 B3) o := by
 unfold J6u at h
 obtain rfl := sj h
 try simp only [↓Da, Ua, J0v, ↓reduceIte, reduceEqDiff, reduceAdd, reduceLT, reduceMul]
 rfl
def J2L (x3 x4 : Int) (x60 : List T_api_Pool) (x61 x62 : Int) (x82 : List Int) (x83 x84 : Int) (x197 : List T_api_Page) (x198 : Int) (b1 : T_api_Page) (b2 : T_pagemenddraw_Codes) (b4 : T_api_Pool) (x199 : Int) (b7 b8 : T_api_Pool) : Option (((Int × T_api_Pool × T_api_Pool) ⊕ (((Int × T_pagemenddraw_Codes) ⊕ (((Int × T_pagemenddraw_Codes) ⊕ (Bool))))))) :=
 if (decide (x199 < x198)) then
  Option.bind (idx x197 x199) fun y2 =>
  Option.bind (J20 b4 y2) fun r5 =>
  Option.bind (J3M b4 y2) fun r8 =>
  if ((r5.2 : Int) != r8.2) then
   some (.inr (.inr (.inr false)))
  else
   Option.bind (J1K r5.1 r8.1) fun r12 =>
   if r12 then
    Option.bind (J3a b4 y2) fun r16 =>
    Option.bind (J27 b4 y2) fun r19 =>
    if ((r16.2 : Int) != r19.2) then
     some (.inr (.inr (.inr false)))
    else
     Option.bind (J1K r16.1 r19.1) fun r23 =>
     if r23 then
      some (.inl ((IntKind.wrap .i64 (x199 + 1)), r16.1, r19.1))
     else
      some (.inr (.inr (.inr false)))
   else
    some (.inr (.inr (.inr false)))
 else
  Option.map (fun o => .inr o) (J6u x3 x4 x60 x61 x62 x82 x83 x84 b1 b2 b4)
theorem Jbd {x3 x4 : Int} {x60 : List T_api_Pool} {x61 x62 : Int} {x82 : List Int} {x83 x84 : Int} {x197 : List T_api_Page} {x198 : Int} {b1 : T_api_Page} {b2 : T_pagemenddraw_Codes} {b4 : T_api_Pool} {x199 : Int} {b7 b8 : T_api_Pool} {B0 B3 : List PV} {B5 B6 : List PV} {o : ((Int × T_api_Pool × T_api_Pool) ⊕ (((Int × T_pagemenddraw_Codes) ⊕ (((Int × T_pagemenddraw_Codes) ⊕ (Bool))))))} (h : J2L x3 x4 x60 x61 x62 x82 x83 x84 x197 x198 b1 b2 b4 x199 b7 b8 = some o) :
  rk (J6 p) JD 0 [.lo 9 [3, 4, 7, 11, 14, 21, 23, 60, 61, 62, 82, 83, 84, 197, 198, 199] J02, .bl 6, .bl 3, .td 5 [3, 4, 7, 10, 11, 14, 60, 61, 62, 82, 83, 84], .sq (.keep [3, 4, 7, 11, 14, 60, 61, 62, 82, 83, 84] J0v), .lo 5 [3, 4, 7, 11, 14, 60, 61, 62, 82, 83, 84] Js, .bl 2, .td 5 [3, 4, 7, 10, 11, 14, 60, 61, 62], .sq (.keep [3, 4, 7, 11, 14, 60, 61, 62] JG), .bl 1, .td 4 [3, 4, 7, 10, 11, 60, 61, 62], .sq (.keep [3, 4, 7, 11, 60, 61, 62] JV), .lo 4 [3, 4, 7, 11, 60, 61, 62] Jw, .bl 0, .td 4 [3, 10], .sq (.keep [3] JB)] (X (J6 p) J02 ⟨[(3, .p (.i .i64 x3)), (4, .p (.i .i64 x4)), (7, .ptr 1 0), (11, .ptr 2 0), (14, .ptr 4 0), (21, .ptr 7 0), (23, .ptr 8 0), (60, .p (.sl 3 (List.map J3 x60))), (61, .p (.i .i64 x61)), (62, .p (.i .i64 x62)), (82, .p (.sl 1 (List.map (r_i .i64) x82))), (83, .p (.i .i64 x83)), (84, .p (.i .i64 x84)), (197, .p (.sl 34 (List.map J9 x197))), (198, .p (.i .i64 x198)), (199, .p (.i .i64 x199))], [.box (List.map AV.p B0), .box (List.map AV.p (J9 b1)), .box (List.map AV.p (J1 b2)), .box (List.map AV.p B3), .box (List.map AV.p (J3 b4)), .box (List.map AV.p B5), .box (List.map AV.p B6), .box (List.map AV.p (J3 b7)), .box (List.map AV.p (J3 b8))]⟩) = (JfT p x3 x4 x60 x61 x62 x82 x83 x84 x197 x198 b1 b2 b4 B0 B3 B5 B6) o := by
 unfold J2L at h
 rcases Jc h with ⟨h1, h⟩ | ⟨h1, h⟩
 ·obtain ⟨y2, h3, h⟩ := bi h
  have f4 := J0f (r := J9) h3
  try simp only [Nf] at f4
  obtain ⟨r5, h6, h⟩ := bi h
  have f7 := JeL p h6
  try simp only [Nf] at f7
  obtain ⟨r8, h9, h⟩ := bi h
  have f10 := Ji9 p h9
  try simp only [Nf] at f10
  try simp only [↓Da, Ua, J02, J5, J0, J2, J8, J4, *, ↓reduceIte, reduceEqDiff, reduceAdd, reduceLT, reduceMul]
  rcases Jc h with ⟨h11, h⟩ | ⟨h11, h⟩
  ·obtain rfl := sj h
   try simp only [↓Da, Ua, J02, J5, J0, J2, J8, J4, JS, *, ↓reduceIte, reduceEqDiff, reduceAdd, reduceLT, reduceMul]
   rfl
  ·obtain ⟨r12, h13, h⟩ := bi h
   have f14 := J6q p h13
   try simp only [Nf] at f14
   try simp only [↓Da, Ua, J02, J5, J0, J2, J8, J4, *, ↓reduceIte, reduceEqDiff, reduceAdd, reduceLT, reduceMul]
   rcases Jc h with ⟨h15, h⟩ | ⟨h15, h⟩
   ·obtain ⟨r16, h17, h⟩ := bi h
    have f18 := Jmx p h17
    try simp only [Nf] at f18
    obtain ⟨r19, h20, h⟩ := bi h
    have f21 := Je3 p h20
    try simp only [Nf] at f21
    try simp only [↓Da, Ua, J02, J5, J0, J2, J8, J4, *, ↓reduceIte, reduceEqDiff, reduceAdd, reduceLT, reduceMul]
    rcases Jc h with ⟨h22, h⟩ | ⟨h22, h⟩
    ·obtain rfl := sj h
     try simp only [↓Da, Ua, J02, J5, J0, J2, J8, J4, JS, *, ↓reduceIte, reduceEqDiff, reduceAdd, reduceLT, reduceMul]
     rfl
    ·obtain ⟨r23, h24, h⟩ := bi h
     have f25 := J6q p h24
     try simp only [Nf] at f25
     try simp only [↓Da, Ua, J02, J5, J0, J2, J8, J4, *, ↓reduceIte, reduceEqDiff, reduceAdd, reduceLT, reduceMul]
     rcases Jc h with ⟨h26, h⟩ | ⟨h26, h⟩
     ·obtain rfl := sj h
      try simp only [↓Da, Ua, J02, J5, J0, J2, J8, J4, *, ↓reduceIte, reduceEqDiff, reduceAdd, reduceLT, reduceMul]
      rfl
     ·obtain rfl := sj h
      try simp only [↓Da, Ua, J02, J5, J0, J2, J8, J4, JS, *, ↓reduceIte, reduceEqDiff, reduceAdd, reduceLT, reduceMul]
      rfl
   ·obtain rfl := sj h
    try simp only [↓Da, Ua, J02, J5, J0, J2, J8, J4, JS, *, ↓reduceIte, reduceEqDiff, reduceAdd, reduceLT, reduceMul]
    rfl
 ·obtain ⟨o', h', rfl⟩ := mi h
  try simp only [↓Da, Ua, J02, J5, J0, J2, J8, J4, *, ↓reduceIte, reduceEqDiff, reduceAdd, reduceLT, reduceMul]
  have e0 := JfQ p (B0 := B0) (B3 := B3) h'
  exact e0
def J8G (x3 x4 : Int) (x60 : List T_api_Pool) (x61 x62 : Int) (x82 : List Int) (x83 x84 : Int) (x197 : List T_api_Page) (x198 : Int) (b1 : T_api_Page) (b2 : T_pagemenddraw_Codes) (b4 : T_api_Pool) (s : Int × T_api_Pool × T_api_Pool) : Option (((Int × T_pagemenddraw_Codes) ⊕ (((Int × T_pagemenddraw_Codes) ⊕ (Bool))))) :=
 JO (fun s => J2L x3 x4 x60 x61 x62 x82 x83 x84 x197 x198 b1 b2 b4 s.1 s.2.1 s.2.2) s
theorem JdK {x3 x4 : Int} {x60 : List T_api_Pool} {x61 x62 : Int} {x82 : List Int} {x83 x84 : Int} {x197 : List T_api_Page} {x198 : Int} {b1 : T_api_Page} {b2 : T_pagemenddraw_Codes} {b4 : T_api_Pool} {B0 B3 : List PV} {B5 B6 : List PV} {s : Int × T_api_Pool × T_api_Pool} {o : ((Int × T_pagemenddraw_Codes) ⊕ (((Int × T_pagemenddraw_Codes) ⊕ (Bool))))} (h : J8G x3 x4 x60 x61 x62 x82 x83 x84 x197 x198 b1 b2 b4 s = some o) :
  rk (J6 p) JD 0 [.bl 6, .bl 3, .td 5 [3, 4, 7, 10, 11, 14, 60, 61, 62, 82, 83, 84], .sq (.keep [3, 4, 7, 11, 14, 60, 61, 62, 82, 83, 84] J0v), .lo 5 [3, 4, 7, 11, 14, 60, 61, 62, 82, 83, 84] Js, .bl 2, .td 5 [3, 4, 7, 10, 11, 14, 60, 61, 62], .sq (.keep [3, 4, 7, 11, 14, 60, 61, 62] JG), .bl 1, .td 4 [3, 4, 7, 10, 11, 60, 61, 62], .sq (.keep [3, 4, 7, 11, 60, 61, 62] JV), .lo 4 [3, 4, 7, 11, 60, 61, 62] Jw, .bl 0, .td 4 [3, 10], .sq (.keep [3] JB)] (X (J6 p) (.lp 9 [3, 4, 7, 11, 14, 21, 23, 60, 61, 62, 82, 83, 84, 197, 198, 199] J02) ⟨[(3, .p (.i .i64 x3)), (4, .p (.i .i64 x4)), (7, .ptr 1 0), (11, .ptr 2 0), (14, .ptr 4 0), (21, .ptr 7 0), (23, .ptr 8 0), (60, .p (.sl 3 (List.map J3 x60))), (61, .p (.i .i64 x61)), (62, .p (.i .i64 x62)), (82, .p (.sl 1 (List.map (r_i .i64) x82))), (83, .p (.i .i64 x83)), (84, .p (.i .i64 x84)), (197, .p (.sl 34 (List.map J9 x197))), (198, .p (.i .i64 x198)), (199, .p (.i .i64 s.1))], [.box (List.map AV.p B0), .box (List.map AV.p (J9 b1)), .box (List.map AV.p (J1 b2)), .box (List.map AV.p B3), .box (List.map AV.p (J3 b4)), .box (List.map AV.p B5), .box (List.map AV.p B6), .box (List.map AV.p (J3 s.2.1)), .box (List.map AV.p (J3 s.2.2))]⟩) = (J1r p x3 x4 x60 x61 x62 x82 x83 b1 b4 B0 B3) o := by
 have h0 : JO (fun s => J2L x3 x4 x60 x61 x62 x82 x83 x84 x197 x198 b1 b2 b4 s.1 s.2.1 s.2.2) s = some o := h
 exact J0M (P := fun (s : Int × T_api_Pool × T_api_Pool) (o : ((Int × T_pagemenddraw_Codes) ⊕ (((Int × T_pagemenddraw_Codes) ⊕ (Bool))))) => rk (J6 p) JD 0 [.bl 6, .bl 3, .td 5 [3, 4, 7, 10, 11, 14, 60, 61, 62, 82, 83, 84], .sq (.keep [3, 4, 7, 11, 14, 60, 61, 62, 82, 83, 84] J0v), .lo 5 [3, 4, 7, 11, 14, 60, 61, 62, 82, 83, 84] Js, .bl 2, .td 5 [3, 4, 7, 10, 11, 14, 60, 61, 62], .sq (.keep [3, 4, 7, 11, 14, 60, 61, 62] JG), .bl 1, .td 4 [3, 4, 7, 10, 11, 60, 61, 62], .sq (.keep [3, 4, 7, 11, 60, 61, 62] JV), .lo 4 [3, 4, 7, 11, 60, 61, 62] Jw, .bl 0, .td 4 [3, 10], .sq (.keep [3] JB)] (X (J6 p) (.lp 9 [3, 4, 7, 11, 14, 21, 23, 60, 61, 62, 82, 83, 84, 197, 198, 199] J02) ⟨[(3, .p (.i .i64 x3)), (4, .p (.i .i64 x4)), (7, .ptr 1 0), (11, .ptr 2 0), (14, .ptr 4 0), (21, .ptr 7 0), (23, .ptr 8 0), (60, .p (.sl 3 (List.map J3 x60))), (61, .p (.i .i64 x61)), (62, .p (.i .i64 x62)), (82, .p (.sl 1 (List.map (r_i .i64) x82))), (83, .p (.i .i64 x83)), (84, .p (.i .i64 x84)), (197, .p (.sl 34 (List.map J9 x197))), (198, .p (.i .i64 x198)), (199, .p (.i .i64 s.1))], [.box (List.map AV.p B0), .box (List.map AV.p (J9 b1)), .box (List.map AV.p (J1 b2)), .box (List.map AV.p B3), .box (List.map AV.p (J3 b4)), .box (List.map AV.p B5), .box (List.map AV.p B6), .box (List.map AV.p (J3 s.2.1)), .box (List.map AV.p (J3 s.2.2))]⟩) = (J1r p x3 x4 x60 x61 x62 x82 x83 b1 b4 B0 B3) o) (fun s r hs => by rw [J0w]; exact Jbd p hs) (fun s s1 r hs ih => by rw [J0w]; exact (Jbd p hs).trans ih) h0
def J4W (x3 x4 x16 : Int) (x60 : List T_api_Pool) (x61 x62 : Int) (x82 : List Int) (x83 x84 : Int) (b1 : T_api_Page) (b2 : T_pagemenddraw_Codes) (b4 : T_api_Pool) (b6 : T_api_Page) (b7 b8 : T_api_Pool) : Option (((Int × T_pagemenddraw_Codes) ⊕ (((Int × T_pagemenddraw_Codes) ⊕ (Bool))))) :=
 Option.bind (Jp b2 3) fun r1 =>
 Option.bind (J3s r1.2 x16) fun r5 =>
 Option.bind (J1E r5.2 r5.1) fun r9 =>
 J8G x3 x4 x60 x61 x62 x82 x83 x84 ([b1, (⟨b6.ID, (IntKind.wrap .i64 (b6.LSN + r1.1)), b6.Cells⟩ : T_api_Page), r9.1] : List T_api_Page) ((List.length ([b1, (⟨b6.ID, (IntKind.wrap .i64 (b6.LSN + r1.1)), b6.Cells⟩ : T_api_Page), r9.1] : List T_api_Page) : Nat) : Int) b1 r9.2 b4 (0, b7, b8)
theorem JfG {x3 x4 x16 : Int} {x60 : List T_api_Pool} {x61 x62 : Int} {x82 : List Int} {x83 x84 : Int} {b1 : T_api_Page} {b2 : T_pagemenddraw_Codes} {b4 : T_api_Pool} {b6 : T_api_Page} {b7 b8 : T_api_Pool} {B0 B3 B5 : List PV} {o : ((Int × T_pagemenddraw_Codes) ⊕ (((Int × T_pagemenddraw_Codes) ⊕ (Bool))))} (h : J4W x3 x4 x16 x60 x61 x62 x82 x83 x84 b1 b2 b4 b6 b7 b8 = some o) :
  rk (J6 p) JD 0 [.bl 3, .td 5 [3, 4, 7, 10, 11, 14, 60, 61, 62, 82, 83, 84], .sq (.keep [3, 4, 7, 11, 14, 60, 61, 62, 82, 83, 84] J0v), .lo 5 [3, 4, 7, 11, 14, 60, 61, 62, 82, 83, 84] Js, .bl 2, .td 5 [3, 4, 7, 10, 11, 14, 60, 61, 62], .sq (.keep [3, 4, 7, 11, 14, 60, 61, 62] JG), .bl 1, .td 4 [3, 4, 7, 10, 11, 60, 61, 62], .sq (.keep [3, 4, 7, 11, 60, 61, 62] JV), .lo 4 [3, 4, 7, 11, 60, 61, 62] Jw, .bl 0, .td 4 [3, 10], .sq (.keep [3] JB)] (X (J6 p) J2H ⟨[(3, .p (.i .i64 x3)), (4, .p (.i .i64 x4)), (7, .ptr 1 0), (11, .ptr 2 0), (14, .ptr 4 0), (16, .p (.i .i64 x16)), (19, .ptr 6 0), (21, .ptr 7 0), (23, .ptr 8 0), (60, .p (.sl 3 (List.map J3 x60))), (61, .p (.i .i64 x61)), (62, .p (.i .i64 x62)), (82, .p (.sl 1 (List.map (r_i .i64) x82))), (83, .p (.i .i64 x83)), (84, .p (.i .i64 x84))], [.box (List.map AV.p B0), .box (List.map AV.p (J9 b1)), .box (List.map AV.p (J1 b2)), .box (List.map AV.p B3), .box (List.map AV.p (J3 b4)), .box (List.map AV.p B5), .box (List.map AV.p (J9 b6)), .box (List.map AV.p (J3 b7)), .box (List.map AV.p (J3 b8))]⟩) = (J1r p x3 x4 x60 x61 x62 x82 x83 b1 b4 B0 B3) o := by
 unfold J4W at h
 obtain ⟨r1, h2, h⟩ := bi h
 have f3 : ∀ ws new s, JC ws s [2] [List.map AV.p (J1 b2)] → (Jl (AF (J6 p)) Jd ([.ptr 2 0, .p (.i .i64 3)], ws) 0 new).run s = some ⟨.p (.i .i64 r1.1), ws ++ [(2, .box (List.map AV.p (J1 r1.2)))]⟩ := Jv (args' := [.ptr 0 0, .p (.i .i64 3)]) (bs := [2]) (css := [List.map AV.p (J1 b2)]) (css' := [List.map AV.p (J1 r1.2)]) rfl rfl rfl (by simp [Jg, Ja]) (Ju p h2) rfl rfl (by simp [Jg, Ja])
 try simp only [Nf] at f3
 have f4 : ∀ ws k new s, JC ws s [2] [List.map AV.p (J1 b2)] → Jf ((Jl (AF (J6 p)) Jd ([.ptr 2 0, .p (.i .i64 3)], ws) k new).reads s) = [2] ++ ([2] ++ [2]) := J2D (args' := [.ptr 0 0, .p (.i .i64 3)]) (bs := [2]) (css := [List.map AV.p (J1 b2)]) rfl rfl rfl (by simp [Jg, Ja])
 try simp only [Nf] at f4
 obtain ⟨r5, h6, h⟩ := bi h
 have f7 : ∀ ws new s, JC ws s [2] [List.map AV.p (J1 r1.2)] → (Jl (AF (J6 p)) J1v ([.ptr 2 0, .p (.i .i64 x16)], ws) 0 new).run s = some ⟨.data (J9 r5.1), ws ++ [(2, .box (List.map AV.p (J1 r5.2)))]⟩ := Jv (args' := [.ptr 0 0, .p (.i .i64 x16)]) (bs := [2]) (css := [List.map AV.p (J1 r1.2)]) (css' := [List.map AV.p (J1 r5.2)]) rfl rfl rfl (by simp [Jg, Ja]) (JbZ p h6) rfl rfl (by simp [Jg, Ja])
 try simp only [Nf] at f7
 have f8 : ∀ ws k new s, JC ws s [2] [List.map AV.p (J1 r1.2)] → Jf ((Jl (AF (J6 p)) J1v ([.ptr 2 0, .p (.i .i64 x16)], ws) k new).reads s) = [2] ++ ([2] ++ [2]) := J2D (args' := [.ptr 0 0, .p (.i .i64 x16)]) (bs := [2]) (css := [List.map AV.p (J1 r1.2)]) rfl rfl rfl (by simp [Jg, Ja])
 try simp only [Nf] at f8
 obtain ⟨r9, h10, h⟩ := bi h
 have f11 : ∀ ws new s, JC ws s [2] [List.map AV.p (J1 r5.2)] → (Jl (AF (J6 p)) J1g ([.ptr 2 0, .data (J9 r5.1)], ws) 0 new).run s = some ⟨.data (J9 r9.1), ws ++ [(2, .box (List.map AV.p (J1 r9.2)))]⟩ := Jv (args' := [.ptr 0 0, .data (J9 r5.1)]) (bs := [2]) (css := [List.map AV.p (J1 r5.2)]) (css' := [List.map AV.p (J1 r9.2)]) rfl rfl rfl (by simp [Jg, Ja]) (JaH p h10) rfl rfl (by simp [Jg, Ja])
 try simp only [Nf] at f11
 have f12 : ∀ ws k new s, JC ws s [2] [List.map AV.p (J1 r5.2)] → Jf ((Jl (AF (J6 p)) J1g ([.ptr 2 0, .data (J9 r5.1)], ws) k new).reads s) = [2] ++ ([2] ++ [2]) := J2D (args' := [.ptr 0 0, .data (J9 r5.1)]) (bs := [2]) (css := [List.map AV.p (J1 r5.2)]) rfl rfl rfl (by simp [Jg, Ja])
 try simp only [Nf] at f12
 try simp only [↓Da, Ua, Ra, J2H, J5, J0, J2, Jb, *, ↓reduceIte, reduceEqDiff, reduceAdd, reduceLT, reduceMul, Nat.reduceBEq]
 have e0 := JdK p (B0 := B0) (B3 := B3) (B5 := B5) (B6 := (J9 (⟨b6.ID, (IntKind.wrap .i64 (b6.LSN + r1.1)), b6.Cells⟩ : T_api_Page))) h
 exact e0
def J2M (x3 x4 x16 : Int) (x60 : List T_api_Pool) (x61 x62 : Int) (x82 : List Int) (x83 x84 : Int) (x154 : List Int) (x155 : Int) (b1 : T_api_Page) (b2 : T_pagemenddraw_Codes) (b4 : T_api_Pool) (b6 : T_api_Page) (x156 : Int) (b7 b8 : T_api_Pool) : Option (((Int × T_api_Pool × T_api_Pool) ⊕ (((Int × T_pagemenddraw_Codes) ⊕ (((Int × T_pagemenddraw_Codes) ⊕ (Bool))))))) :=
 if (decide (x156 < x155)) then
  Option.bind (idx x154 x156) fun y2 =>
  Option.bind (J4e b4 x16 y2) fun r5 =>
  Option.bind (J3c b4 x16 y2) fun r8 =>
  if ((r5.2 : Int) != r8.2) then
   some (.inr (.inr (.inr false)))
  else
   Option.bind (J1K r5.1 r8.1) fun r12 =>
   if r12 then
    some (.inl ((IntKind.wrap .i64 (x156 + 1)), r5.1, r8.1))
   else
    some (.inr (.inr (.inr false)))
 else
  Option.map (fun o => .inr o) (J4W x3 x4 x16 x60 x61 x62 x82 x83 x84 b1 b2 b4 b6 b7 b8)
theorem Jbb {x3 x4 x16 : Int} {x60 : List T_api_Pool} {x61 x62 : Int} {x82 : List Int} {x83 x84 : Int} {x154 : List Int} {x155 : Int} {b1 : T_api_Page} {b2 : T_pagemenddraw_Codes} {b4 : T_api_Pool} {b6 : T_api_Page} {x156 : Int} {b7 b8 : T_api_Pool} {B0 B3 B5 : List PV} {o : ((Int × T_api_Pool × T_api_Pool) ⊕ (((Int × T_pagemenddraw_Codes) ⊕ (((Int × T_pagemenddraw_Codes) ⊕ (Bool))))))} (h : J2M x3 x4 x16 x60 x61 x62 x82 x83 x84 x154 x155 b1 b2 b4 b6 x156 b7 b8 = some o) :
  rk (J6 p) JD 0 [.lo 9 [3, 4, 7, 11, 14, 16, 19, 21, 23, 60, 61, 62, 82, 83, 84, 154, 155, 156] J0u, .bl 4, .sq (.keep [3, 4, 7, 11, 14, 16, 19, 21, 23, 60, 61, 62, 82, 83, 84] J2H), .bl 3, .td 5 [3, 4, 7, 10, 11, 14, 60, 61, 62, 82, 83, 84], .sq (.keep [3, 4, 7, 11, 14, 60, 61, 62, 82, 83, 84] J0v), .lo 5 [3, 4, 7, 11, 14, 60, 61, 62, 82, 83, 84] Js, .bl 2, .td 5 [3, 4, 7, 10, 11, 14, 60, 61, 62], .sq (.keep [3, 4, 7, 11, 14, 60, 61, 62] JG), .bl 1, .td 4 [3, 4, 7, 10, 11, 60, 61, 62], .sq (.keep [3, 4, 7, 11, 60, 61, 62] JV), .lo 4 [3, 4, 7, 11, 60, 61, 62] Jw, .bl 0, .td 4 [3, 10], .sq (.keep [3] JB)] (X (J6 p) J0u ⟨[(3, .p (.i .i64 x3)), (4, .p (.i .i64 x4)), (7, .ptr 1 0), (11, .ptr 2 0), (14, .ptr 4 0), (16, .p (.i .i64 x16)), (19, .ptr 6 0), (21, .ptr 7 0), (23, .ptr 8 0), (60, .p (.sl 3 (List.map J3 x60))), (61, .p (.i .i64 x61)), (62, .p (.i .i64 x62)), (82, .p (.sl 1 (List.map (r_i .i64) x82))), (83, .p (.i .i64 x83)), (84, .p (.i .i64 x84)), (154, .p (.sl 1 (List.map (r_i .i64) x154))), (155, .p (.i .i64 x155)), (156, .p (.i .i64 x156))], [.box (List.map AV.p B0), .box (List.map AV.p (J9 b1)), .box (List.map AV.p (J1 b2)), .box (List.map AV.p B3), .box (List.map AV.p (J3 b4)), .box (List.map AV.p B5), .box (List.map AV.p (J9 b6)), .box (List.map AV.p (J3 b7)), .box (List.map AV.p (J3 b8))]⟩) = (JfE p x3 x4 x16 x60 x61 x62 x82 x83 x84 x154 x155 b1 b2 b4 b6 B0 B3 B5) o := by
 unfold J2M at h
 rcases Jc h with ⟨h1, h⟩ | ⟨h1, h⟩
 ·obtain ⟨y2, h3, h⟩ := bi h
  have f4 := J0f (r := (r_i .i64)) h3
  try simp only [Nf] at f4
  obtain ⟨r5, h6, h⟩ := bi h
  have f7 := JnQ p h6
  try simp only [Nf] at f7
  obtain ⟨r8, h9, h⟩ := bi h
  have f10 := Jfi p h9
  try simp only [Nf] at f10
  try simp only [↓Da, Ua, J0u, J5, J0, J2, J8, J4, *, ↓reduceIte, reduceEqDiff, reduceAdd, reduceLT, reduceMul]
  rcases Jc h with ⟨h11, h⟩ | ⟨h11, h⟩
  ·obtain rfl := sj h
   try simp only [↓Da, Ua, J0u, J5, J0, J2, J8, J4, JS, *, ↓reduceIte, reduceEqDiff, reduceAdd, reduceLT, reduceMul]
   rfl
  ·obtain ⟨r12, h13, h⟩ := bi h
   have f14 := J6q p h13
   try simp only [Nf] at f14
   try simp only [↓Da, Ua, J0u, J5, J0, J2, J8, J4, *, ↓reduceIte, reduceEqDiff, reduceAdd, reduceLT, reduceMul]
   rcases Jc h with ⟨h15, h⟩ | ⟨h15, h⟩
   ·obtain rfl := sj h
    try simp only [↓Da, Ua, J0u, J5, J0, J2, J8, J4, *, ↓reduceIte, reduceEqDiff, reduceAdd, reduceLT, reduceMul]
    rfl
   ·obtain rfl := sj h
    try simp only [↓Da, Ua, J0u, J5, J0, J2, J8, J4, JS, *, ↓reduceIte, reduceEqDiff, reduceAdd, reduceLT, reduceMul]
    rfl
 ·obtain ⟨o', h', rfl⟩ := mi h
  try simp only [↓Da, Ua, J0u, J5, J0, J2, J8, J4, *, ↓reduceIte, reduceEqDiff, reduceAdd, reduceLT, reduceMul]
  have e0 := JfG p (B0 := B0) (B3 := B3) (B5 := B5) h'
  exact e0
def J8E (x3 x4 x16 : Int) (x60 : List T_api_Pool) (x61 x62 : Int) (x82 : List Int) (x83 x84 : Int) (x154 : List Int) (x155 : Int) (b1 : T_api_Page) (b2 : T_pagemenddraw_Codes) (b4 : T_api_Pool) (b6 : T_api_Page) (s : Int × T_api_Pool × T_api_Pool) : Option (((Int × T_pagemenddraw_Codes) ⊕ (((Int × T_pagemenddraw_Codes) ⊕ (Bool))))) :=
 JO (fun s => J2M x3 x4 x16 x60 x61 x62 x82 x83 x84 x154 x155 b1 b2 b4 b6 s.1 s.2.1 s.2.2) s
theorem JdW {x3 x4 x16 : Int} {x60 : List T_api_Pool} {x61 x62 : Int} {x82 : List Int} {x83 x84 : Int} {x154 : List Int} {x155 : Int} {b1 : T_api_Page} {b2 : T_pagemenddraw_Codes} {b4 : T_api_Pool} {b6 : T_api_Page} {B0 B3 B5 : List PV} {s : Int × T_api_Pool × T_api_Pool} {o : ((Int × T_pagemenddraw_Codes) ⊕ (((Int × T_pagemenddraw_Codes) ⊕ (Bool))))} (h : J8E x3 x4 x16 x60 x61 x62 x82 x83 x84 x154 x155 b1 b2 b4 b6 s = some o) :
  rk (J6 p) JD 0 [.bl 4, .sq (.keep [3, 4, 7, 11, 14, 16, 19, 21, 23, 60, 61, 62, 82, 83, 84] J2H), .bl 3, .td 5 [3, 4, 7, 10, 11, 14, 60, 61, 62, 82, 83, 84], .sq (.keep [3, 4, 7, 11, 14, 60, 61, 62, 82, 83, 84] J0v), .lo 5 [3, 4, 7, 11, 14, 60, 61, 62, 82, 83, 84] Js, .bl 2, .td 5 [3, 4, 7, 10, 11, 14, 60, 61, 62], .sq (.keep [3, 4, 7, 11, 14, 60, 61, 62] JG), .bl 1, .td 4 [3, 4, 7, 10, 11, 60, 61, 62], .sq (.keep [3, 4, 7, 11, 60, 61, 62] JV), .lo 4 [3, 4, 7, 11, 60, 61, 62] Jw, .bl 0, .td 4 [3, 10], .sq (.keep [3] JB)] (X (J6 p) (.lp 9 [3, 4, 7, 11, 14, 16, 19, 21, 23, 60, 61, 62, 82, 83, 84, 154, 155, 156] J0u) ⟨[(3, .p (.i .i64 x3)), (4, .p (.i .i64 x4)), (7, .ptr 1 0), (11, .ptr 2 0), (14, .ptr 4 0), (16, .p (.i .i64 x16)), (19, .ptr 6 0), (21, .ptr 7 0), (23, .ptr 8 0), (60, .p (.sl 3 (List.map J3 x60))), (61, .p (.i .i64 x61)), (62, .p (.i .i64 x62)), (82, .p (.sl 1 (List.map (r_i .i64) x82))), (83, .p (.i .i64 x83)), (84, .p (.i .i64 x84)), (154, .p (.sl 1 (List.map (r_i .i64) x154))), (155, .p (.i .i64 x155)), (156, .p (.i .i64 s.1))], [.box (List.map AV.p B0), .box (List.map AV.p (J9 b1)), .box (List.map AV.p (J1 b2)), .box (List.map AV.p B3), .box (List.map AV.p (J3 b4)), .box (List.map AV.p B5), .box (List.map AV.p (J9 b6)), .box (List.map AV.p (J3 s.2.1)), .box (List.map AV.p (J3 s.2.2))]⟩) = (J1r p x3 x4 x60 x61 x62 x82 x83 b1 b4 B0 B3) o := by
 have h0 : JO (fun s => J2M x3 x4 x16 x60 x61 x62 x82 x83 x84 x154 x155 b1 b2 b4 b6 s.1 s.2.1 s.2.2) s = some o := h
 exact J0M (P := fun (s : Int × T_api_Pool × T_api_Pool) (o : ((Int × T_pagemenddraw_Codes) ⊕ (((Int × T_pagemenddraw_Codes) ⊕ (Bool))))) => rk (J6 p) JD 0 [.bl 4, .sq (.keep [3, 4, 7, 11, 14, 16, 19, 21, 23, 60, 61, 62, 82, 83, 84] J2H), .bl 3, .td 5 [3, 4, 7, 10, 11, 14, 60, 61, 62, 82, 83, 84], .sq (.keep [3, 4, 7, 11, 14, 60, 61, 62, 82, 83, 84] J0v), .lo 5 [3, 4, 7, 11, 14, 60, 61, 62, 82, 83, 84] Js, .bl 2, .td 5 [3, 4, 7, 10, 11, 14, 60, 61, 62], .sq (.keep [3, 4, 7, 11, 14, 60, 61, 62] JG), .bl 1, .td 4 [3, 4, 7, 10, 11, 60, 61, 62], .sq (.keep [3, 4, 7, 11, 60, 61, 62] JV), .lo 4 [3, 4, 7, 11, 60, 61, 62] Jw, .bl 0, .td 4 [3, 10], .sq (.keep [3] JB)] (X (J6 p) (.lp 9 [3, 4, 7, 11, 14, 16, 19, 21, 23, 60, 61, 62, 82, 83, 84, 154, 155, 156] J0u) ⟨[(3, .p (.i .i64 x3)), (4, .p (.i .i64 x4)), (7, .ptr 1 0), (11, .ptr 2 0), (14, .ptr 4 0), (16, .p (.i .i64 x16)), (19, .ptr 6 0), (21, .ptr 7 0), (23, .ptr 8 0), (60, .p (.sl 3 (List.map J3 x60))), (61, .p (.i .i64 x61)), (62, .p (.i .i64 x62)), (82, .p (.sl 1 (List.map (r_i .i64) x82))), (83, .p (.i .i64 x83)), (84, .p (.i .i64 x84)), (154, .p (.sl 1 (List.map (r_i .i64) x154))), (155, .p (.i .i64 x155)), (156, .p (.i .i64 s.1))], [.box (List.map AV.p B0), .box (List.map AV.p (J9 b1)), .box (List.map AV.p (J1 b2)), .box (List.map AV.p B3), .box (List.map AV.p (J3 b4)), .box (List.map AV.p B5), .box (List.map AV.p (J9 b6)), .box (List.map AV.p (J3 s.2.1)), .box (List.map AV.p (J3 s.2.2))]⟩) = (J1r p x3 x4 x60 x61 x62 x82 x83 b1 b4 B0 B3) o) (fun s r hs => by rw [J0w]; exact Jbb p hs) (fun s s1 r hs ih => by rw [J0w]; exact (Jbb p hs).trans ih) h0
def J6t (x3 x4 : Int) (x60 : List T_api_Pool) (x61 x62 : Int) (b1 : T_api_Page) (b2 : T_pagemenddraw_Codes) : Option (((Int × T_pagemenddraw_Codes) ⊕ (Bool))) :=
 some (.inl ((IntKind.wrap .i64 (x62 + 1)), b2))
theorem JfX {x3 x4 : Int} {x60 : List T_api_Pool} {x61 x62 : Int} {b1 : T_api_Page} {b2 : T_pagemenddraw_Codes} {B0 B3 : List PV} {o : ((Int × T_pagemenddraw_Codes) ⊕ (Bool))} (h : J6t x3 x4 x60 x61 x62 b1 b2 = some o) :
  rk (J6 p) JD 0 [.lo 4 [3, 4, 7, 11, 60, 61, 62] Jw, .bl 0, .td 4 [3, 10], .sq (.keep [3] JB)] (X (J6 p) JV ⟨[(3, .p (.i .i64 x3)), (4, .p (.i .i64 x4)), (7, .ptr 1 0), (11, .ptr 2 0), (60, .p (.sl 3 (List.map J3 x60))), (61, .p (.i .i64 x61)), (62, .p (.i .i64 x62))], [.box (List.map AV.p B0), .box (List.map AV.p (J9 b1)), .box (List.map AV.p (J1 b2)), .box (List.map AV.p B3)]⟩) = (J3L p x3 x4 x60 x61 b1 B0 B3) o := by
 unfold J6t at h
 obtain rfl := sj h
 try simp only [↓Da, Ua, JV, ↓reduceIte, reduceEqDiff, reduceAdd, reduceLT, reduceMul]
 rfl
def J4Y (x3 x4 : Int) (x60 : List T_api_Pool) (x61 x62 : Int) (b1 : T_api_Page) (b2 : T_pagemenddraw_Codes) (b4 : T_api_Pool) : Option (((Int × T_pagemenddraw_Codes) ⊕ (Bool))) :=
 Option.bind (J1z b4) fun r1 =>
 Option.bind (J2A b4) fun r4 =>
 if ((r1.2.1 : Int) != r4.2.1) then
  some (.inr false)
 else
  if ((r1.2.2 : Int) != r4.2.2) then
   some (.inr false)
  else
   Option.bind (J1K r1.1 r4.1) fun r9 =>
   if r9 then
    J6t x3 x4 x60 x61 x62 b1 b2
   else
    some (.inr false)
theorem JfR {x3 x4 : Int} {x60 : List T_api_Pool} {x61 x62 : Int} {b1 : T_api_Page} {b2 : T_pagemenddraw_Codes} {b4 : T_api_Pool} {B0 B3 : List PV} {o : ((Int × T_pagemenddraw_Codes) ⊕ (Bool))} (h : J4Y x3 x4 x60 x61 x62 b1 b2 b4 = some o) :
  rk (J6 p) JD 0 [.bl 1, .td 4 [3, 4, 7, 10, 11, 60, 61, 62], .sq (.keep [3, 4, 7, 11, 60, 61, 62] JV), .lo 4 [3, 4, 7, 11, 60, 61, 62] Jw, .bl 0, .td 4 [3, 10], .sq (.keep [3] JB)] (X (J6 p) JG ⟨[(3, .p (.i .i64 x3)), (4, .p (.i .i64 x4)), (7, .ptr 1 0), (11, .ptr 2 0), (14, .ptr 4 0), (60, .p (.sl 3 (List.map J3 x60))), (61, .p (.i .i64 x61)), (62, .p (.i .i64 x62))], [.box (List.map AV.p B0), .box (List.map AV.p (J9 b1)), .box (List.map AV.p (J1 b2)), .box (List.map AV.p B3), .box (List.map AV.p (J3 b4))]⟩) = (J3L p x3 x4 x60 x61 b1 B0 B3) o := by
 unfold J4Y at h
 obtain ⟨r1, h2, h⟩ := bi h
 have f3 := Jft p h2
 try simp only [Nf] at f3
 obtain ⟨r4, h5, h⟩ := bi h
 have f6 := Jej p h5
 try simp only [Nf] at f6
 try simp only [↓Da, Ua, JG, J5, J0, J2, J8, J4, *, ↓reduceIte, reduceEqDiff, reduceAdd, reduceLT, reduceMul]
 rcases Jc h with ⟨h7, h⟩ | ⟨h7, h⟩
 ·obtain rfl := sj h
  try simp only [↓Da, Ua, JG, J5, J0, J2, J8, J4, JS, *, ↓reduceIte, reduceEqDiff, reduceAdd, reduceLT, reduceMul]
  rfl
 ·try simp only [↓Da, Ua, JG, J5, J0, J2, J8, J4, *, ↓reduceIte, reduceEqDiff, reduceAdd, reduceLT, reduceMul]
  rcases Jc h with ⟨h8, h⟩ | ⟨h8, h⟩
  ·obtain rfl := sj h
   try simp only [↓Da, Ua, JG, J5, J0, J2, J8, J4, JS, *, ↓reduceIte, reduceEqDiff, reduceAdd, reduceLT, reduceMul]
   rfl
  ·obtain ⟨r9, h10, h⟩ := bi h
   have f11 := J6q p h10
   try simp only [Nf] at f11
   try simp only [↓Da, Ua, JG, J5, J0, J2, J8, J4, *, ↓reduceIte, reduceEqDiff, reduceAdd, reduceLT, reduceMul]
   rcases Jc h with ⟨h12, h⟩ | ⟨h12, h⟩
   ·try simp only [↓Da, Ua, JG, J5, J0, J2, J8, J4, *, ↓reduceIte, reduceEqDiff, reduceAdd, reduceLT, reduceMul]
    have e0 := JfX p (B0 := B0) (B3 := B3) h
    exact e0
   ·obtain rfl := sj h
    try simp only [↓Da, Ua, JG, J5, J0, J2, J8, J4, JS, *, ↓reduceIte, reduceEqDiff, reduceAdd, reduceLT, reduceMul]
    rfl
def J2P (x3 x4 : Int) (x60 : List T_api_Pool) (x61 x62 : Int) (x82 : List Int) (x83 : Int) (b1 : T_api_Page) (b4 : T_api_Pool) (x84 : Int) (b2 : T_pagemenddraw_Codes) : Option (((Int × T_pagemenddraw_Codes) ⊕ (((Int × T_pagemenddraw_Codes) ⊕ (Bool))))) :=
 if (decide (x84 < x83)) then
  Option.bind (idx x82 x84) fun y2 =>
  Option.bind (J5V b4 y2) fun r5 =>
  Option.bind (J3P b4 y2) fun r8 =>
  if (r5.1 == r8.1) then
   if (r5.2 == r8.2) then
    Option.bind (J1w b4 y2) fun r14 =>
    Option.bind (J1c b4 y2) fun r18 =>
    if ((r14 : Int) != r18) then
     some (.inr (.inr false))
    else
     Option.bind (J61 b4 y2) fun r23 =>
     Option.bind (J5n b4 y2) fun r27 =>
     Option.bind (J1K r23 r27) fun r31 =>
     if r31 then
      Option.bind (J5l b4 y2) fun r36 =>
      Option.bind (J4i b4 y2) fun r39 =>
      if ((r36.2 : Int) != r39.2) then
       some (.inr (.inr false))
      else
       Option.bind (J1K r36.1 r39.1) fun r43 =>
       if r43 then
        J8E x3 x4 y2 x60 x61 x62 x82 x83 x84 ([x4, r8.1.LSN, (IntKind.wrap .i64 (r8.1.LSN - 1))] : List Int) ((List.length ([x4, r8.1.LSN, (IntKind.wrap .i64 (r8.1.LSN - 1))] : List Int) : Nat) : Int) b1 b2 b4 r8.1 (0, r36.1, r39.1)
       else
        some (.inr (.inr false))
     else
      some (.inr (.inr false))
   else
    some (.inr (.inr false))
  else
   some (.inr (.inr false))
 else
  Option.map (fun o => .inr o) (J4Y x3 x4 x60 x61 x62 b1 b2 b4)
theorem Jb9 {x3 x4 : Int} {x60 : List T_api_Pool} {x61 x62 : Int} {x82 : List Int} {x83 : Int} {b1 : T_api_Page} {b4 : T_api_Pool} {x84 : Int} {b2 : T_pagemenddraw_Codes} {B0 B3 : List PV} {o : ((Int × T_pagemenddraw_Codes) ⊕ (((Int × T_pagemenddraw_Codes) ⊕ (Bool))))} (h : J2P x3 x4 x60 x61 x62 x82 x83 b1 b4 x84 b2 = some o) :
  rk (J6 p) JD 0 [.lo 5 [3, 4, 7, 11, 14, 60, 61, 62, 82, 83, 84] Js, .bl 2, .td 5 [3, 4, 7, 10, 11, 14, 60, 61, 62], .sq (.keep [3, 4, 7, 11, 14, 60, 61, 62] JG), .bl 1, .td 4 [3, 4, 7, 10, 11, 60, 61, 62], .sq (.keep [3, 4, 7, 11, 60, 61, 62] JV), .lo 4 [3, 4, 7, 11, 60, 61, 62] Jw, .bl 0, .td 4 [3, 10], .sq (.keep [3] JB)] (X (J6 p) Js ⟨[(3, .p (.i .i64 x3)), (4, .p (.i .i64 x4)), (7, .ptr 1 0), (11, .ptr 2 0), (14, .ptr 4 0), (60, .p (.sl 3 (List.map J3 x60))), (61, .p (.i .i64 x61)), (62, .p (.i .i64 x62)), (82, .p (.sl 1 (List.map (r_i .i64) x82))), (83, .p (.i .i64 x83)), (84, .p (.i .i64 x84))], [.box (List.map AV.p B0), .box (List.map AV.p (J9 b1)), .box (List.map AV.p (J1 b2)), .box (List.map AV.p B3), .box (List.map AV.p (J3 b4))]⟩) = (J1r p x3 x4 x60 x61 x62 x82 x83 b1 b4 B0 B3) o := by
 unfold J2P at h
 rcases Jc h with ⟨h1, h⟩ | ⟨h1, h⟩
 ·obtain ⟨y2, h3, h⟩ := bi h
  have f4 := J0f (r := (r_i .i64)) h3
  try simp only [Nf] at f4
  obtain ⟨r5, h6, h⟩ := bi h
  have f7 := Jql p h6
  try simp only [Nf] at f7
  obtain ⟨r8, h9, h⟩ := bi h
  have f10 := Jdw p h9
  try simp only [Nf] at f10
  try simp only [↓Da, Ua, Ra, Js, J5, J0, J2, J8, J4, J25, *, ↓reduceIte, reduceEqDiff, reduceAdd, reduceLT, reduceMul, Nat.reduceBEq]
  rcases Jc h with ⟨h12, h⟩ | ⟨h12, h⟩
  ·try simp only [↓Da, Ua, Ra, Js, J5, J0, J2, J8, J4, J25, *, ↓reduceIte, reduceEqDiff, reduceAdd, reduceLT, reduceMul, Nat.reduceBEq]
   rcases Jc h with ⟨h13, h⟩ | ⟨h13, h⟩
   ·obtain ⟨r14, h15, h⟩ := bi h
    have f16 := Jdy p h15
    try simp only [Nf] at f16
    have f17 : ∀ ws k new s, Jf ((Jl (AF (J6 p)) J5k ([.data (J3 b4), .p (.i .i64 y2)], ws) k new).reads s) = [] := JP rfl
    try simp only [Nf] at f17
    obtain ⟨r18, h19, h⟩ := bi h
    have f20 := JcO p h19
    try simp only [Nf] at f20
    have f21 : ∀ ws k new s, Jf ((Jl (AF (J6 p)) J4r ([.data (J3 b4), .p (.i .i64 y2)], ws) k new).reads s) = [] := JP rfl
    try simp only [Nf] at f21
    try simp only [↓Da, Ua, Ra, Js, J5, J0, J2, J8, J4, J25, *, ↓reduceIte, reduceEqDiff, reduceAdd, reduceLT, reduceMul, Nat.reduceBEq]
    rcases Jc h with ⟨h22, h⟩ | ⟨h22, h⟩
    ·obtain rfl := sj h
     try simp only [↓Da, Ua, Ra, Js, J5, J0, J2, J8, J4, J25, JS, *, ↓reduceIte, reduceEqDiff, reduceAdd, reduceLT, reduceMul, Nat.reduceBEq]
     rfl
    ·obtain ⟨r23, h24, h⟩ := bi h
     have f25 := JqA p h24
     try simp only [Nf] at f25
     have f26 : ∀ ws k new s, Jf ((Jl (AF (J6 p)) J83 ([.data (J3 b4), .p (.i .i64 y2)], ws) k new).reads s) = [] := JP rfl
     try simp only [Nf] at f26
     obtain ⟨r27, h28, h⟩ := bi h
     have f29 := Jp8 p h28
     try simp only [Nf] at f29
     have f30 : ∀ ws k new s, Jf ((Jl (AF (J6 p)) J7j ([.data (J3 b4), .p (.i .i64 y2)], ws) k new).reads s) = [] := JP rfl
     try simp only [Nf] at f30
     obtain ⟨r31, h32, h⟩ := bi h
     have f33 := J6q p h32
     try simp only [Nf] at f33
     have f34 : ∀ ws k new s, Jf ((Jl (AF (J6 p)) J2b ([.data (J3 r23), .data (J3 r27)], ws) k new).reads s) = [] := JP rfl
     try simp only [Nf] at f34
     try simp only [↓Da, Ua, Ra, Js, J5, J0, J2, J8, J4, J25, *, ↓reduceIte, reduceEqDiff, reduceAdd, reduceLT, reduceMul, Nat.reduceBEq]
     rcases Jc h with ⟨h35, h⟩ | ⟨h35, h⟩
     ·obtain ⟨r36, h37, h⟩ := bi h
      have f38 := JoS p h37
      try simp only [Nf] at f38
      obtain ⟨r39, h40, h⟩ := bi h
      have f41 := Joj p h40
      try simp only [Nf] at f41
      try simp only [↓Da, Ua, Ra, Js, J5, J0, J2, J8, J4, J25, *, ↓reduceIte, reduceEqDiff, reduceAdd, reduceLT, reduceMul, Nat.reduceBEq]
      rcases Jc h with ⟨h42, h⟩ | ⟨h42, h⟩
      ·obtain rfl := sj h
       try simp only [↓Da, Ua, Ra, Js, J5, J0, J2, J8, J4, J25, JS, *, ↓reduceIte, reduceEqDiff, reduceAdd, reduceLT, reduceMul, Nat.reduceBEq]
       rfl
      ·obtain ⟨r43, h44, h⟩ := bi h
       have f45 := J6q p h44
       try simp only [Nf] at f45
       try simp only [↓Da, Ua, Ra, Js, J5, J0, J2, J8, J4, J25, *, ↓reduceIte, reduceEqDiff, reduceAdd, reduceLT, reduceMul, Nat.reduceBEq]
       rcases Jc h with ⟨h46, h⟩ | ⟨h46, h⟩
       ·try simp only [↓Da, Ua, Ra, Js, J5, J0, J2, J8, J4, J25, *, ↓reduceIte, reduceEqDiff, reduceAdd, reduceLT, reduceMul, Nat.reduceBEq]
        have e0 := JdW p (B0 := B0) (B3 := B3) (B5 := (J9 r5.1)) h
        exact e0
       ·obtain rfl := sj h
        try simp only [↓Da, Ua, Ra, Js, J5, J0, J2, J8, J4, J25, JS, *, ↓reduceIte, reduceEqDiff, reduceAdd, reduceLT, reduceMul, Nat.reduceBEq]
        rfl
     ·obtain rfl := sj h
      try simp only [↓Da, Ua, Ra, Js, J5, J0, J2, J8, J4, J25, JS, *, ↓reduceIte, reduceEqDiff, reduceAdd, reduceLT, reduceMul, Nat.reduceBEq]
      rfl
   ·obtain rfl := sj h
    try simp only [↓Da, Ua, Ra, Js, J5, J0, J2, J8, J4, J25, JS, *, ↓reduceIte, reduceEqDiff, reduceAdd, reduceLT, reduceMul, Nat.reduceBEq]
    rfl
  ·obtain rfl := sj h
   try simp only [↓Da, Ua, Ra, Js, J5, J0, J2, J8, J4, J25, JS, *, ↓reduceIte, reduceEqDiff, reduceAdd, reduceLT, reduceMul, Nat.reduceBEq]
   rfl
 ·obtain ⟨o', h', rfl⟩ := mi h
  try simp only [↓Da, Ua, Ra, Js, J5, J0, J2, J8, J4, *, ↓reduceIte, reduceEqDiff, reduceAdd, reduceLT, reduceMul, Nat.reduceBEq]
  have e0 := JfR p (B0 := B0) (B3 := B3) h'
  exact e0
def J8J (x3 x4 : Int) (x60 : List T_api_Pool) (x61 x62 : Int) (x82 : List Int) (x83 : Int) (b1 : T_api_Page) (b4 : T_api_Pool) (s : Int × T_pagemenddraw_Codes) : Option (((Int × T_pagemenddraw_Codes) ⊕ (Bool))) :=
 JO (fun s => J2P x3 x4 x60 x61 x62 x82 x83 b1 b4 s.1 s.2) s
theorem Je4 {x3 x4 : Int} {x60 : List T_api_Pool} {x61 x62 : Int} {x82 : List Int} {x83 : Int} {b1 : T_api_Page} {b4 : T_api_Pool} {B0 B3 : List PV} {s : Int × T_pagemenddraw_Codes} {o : ((Int × T_pagemenddraw_Codes) ⊕ (Bool))} (h : J8J x3 x4 x60 x61 x62 x82 x83 b1 b4 s = some o) :
  rk (J6 p) JD 0 [.bl 2, .td 5 [3, 4, 7, 10, 11, 14, 60, 61, 62], .sq (.keep [3, 4, 7, 11, 14, 60, 61, 62] JG), .bl 1, .td 4 [3, 4, 7, 10, 11, 60, 61, 62], .sq (.keep [3, 4, 7, 11, 60, 61, 62] JV), .lo 4 [3, 4, 7, 11, 60, 61, 62] Jw, .bl 0, .td 4 [3, 10], .sq (.keep [3] JB)] (X (J6 p) (.lp 5 [3, 4, 7, 11, 14, 60, 61, 62, 82, 83, 84] Js) ⟨[(3, .p (.i .i64 x3)), (4, .p (.i .i64 x4)), (7, .ptr 1 0), (11, .ptr 2 0), (14, .ptr 4 0), (60, .p (.sl 3 (List.map J3 x60))), (61, .p (.i .i64 x61)), (62, .p (.i .i64 x62)), (82, .p (.sl 1 (List.map (r_i .i64) x82))), (83, .p (.i .i64 x83)), (84, .p (.i .i64 s.1))], [.box (List.map AV.p B0), .box (List.map AV.p (J9 b1)), .box (List.map AV.p (J1 s.2)), .box (List.map AV.p B3), .box (List.map AV.p (J3 b4))]⟩) = (J3L p x3 x4 x60 x61 b1 B0 B3) o := by
 have h0 : JO (fun s => J2P x3 x4 x60 x61 x62 x82 x83 b1 b4 s.1 s.2) s = some o := h
 exact J0M (P := fun (s : Int × T_pagemenddraw_Codes) (o : ((Int × T_pagemenddraw_Codes) ⊕ (Bool))) => rk (J6 p) JD 0 [.bl 2, .td 5 [3, 4, 7, 10, 11, 14, 60, 61, 62], .sq (.keep [3, 4, 7, 11, 14, 60, 61, 62] JG), .bl 1, .td 4 [3, 4, 7, 10, 11, 60, 61, 62], .sq (.keep [3, 4, 7, 11, 60, 61, 62] JV), .lo 4 [3, 4, 7, 11, 60, 61, 62] Jw, .bl 0, .td 4 [3, 10], .sq (.keep [3] JB)] (X (J6 p) (.lp 5 [3, 4, 7, 11, 14, 60, 61, 62, 82, 83, 84] Js) ⟨[(3, .p (.i .i64 x3)), (4, .p (.i .i64 x4)), (7, .ptr 1 0), (11, .ptr 2 0), (14, .ptr 4 0), (60, .p (.sl 3 (List.map J3 x60))), (61, .p (.i .i64 x61)), (62, .p (.i .i64 x62)), (82, .p (.sl 1 (List.map (r_i .i64) x82))), (83, .p (.i .i64 x83)), (84, .p (.i .i64 s.1))], [.box (List.map AV.p B0), .box (List.map AV.p (J9 b1)), .box (List.map AV.p (J1 s.2)), .box (List.map AV.p B3), .box (List.map AV.p (J3 b4))]⟩) = (J3L p x3 x4 x60 x61 b1 B0 B3) o) (fun s r hs => by rw [J0w]; exact Jb9 p hs) (fun s s1 r hs ih => by rw [J0w]; exact (Jb9 p hs).trans ih) h0
def J4V (x3 : Int) : Option (Bool) :=
 Option.bind (J4s x3) fun r1 =>
 Option.bind (J64 x3) fun r4 =>
 if ((r1.2 : Int) == r4.2) then
  Option.bind (J1K r1.1 r4.1) fun r8 =>
  some r8
 else
  some false
theorem JfS {x3 : Int} {B0 B1 : List PV} {B2 B3 : List PV} {o : Bool} (h : J4V x3 = some o) :
  rk (J6 p) JD 0 [] (X (J6 p) JB ⟨[(3, .p (.i .i64 x3))], [.box (List.map AV.p B0), .box (List.map AV.p B1), .box (List.map AV.p B2), .box (List.map AV.p B3)]⟩) = J4G o := by
 unfold J4V at h
 obtain ⟨r1, h2, h⟩ := bi h
 have f3 := JjS p h2
 try simp only [Nf] at f3
 obtain ⟨r4, h5, h⟩ := bi h
 have f6 := Ji5 p h5
 try simp only [Nf] at f6
 try simp only [↓Da, Ua, JB, J5, J0, J2, J8, J4, *, ↓reduceIte, reduceEqDiff, reduceAdd, reduceLT, reduceMul]
 rcases Jc h with ⟨h7, h⟩ | ⟨h7, h⟩
 ·obtain ⟨r8, h9, h⟩ := bi h
  have f10 := J6q p h9
  try simp only [Nf] at f10
  obtain rfl := sj h
  try simp only [↓Da, Ua, JB, J5, J0, J2, J8, J4, JS, *, ↓reduceIte, reduceEqDiff, reduceAdd, reduceLT, reduceMul]
  rfl
 ·obtain rfl := sj h
  try simp only [↓Da, Ua, JB, J5, J0, J2, J8, J4, JS, *, ↓reduceIte, reduceEqDiff, reduceAdd, reduceLT, reduceMul]
  rfl
def J2K (x3 x4 : Int) (x60 : List T_api_Pool) (x61 : Int) (b1 : T_api_Page) (x62 : Int) (b2 : T_pagemenddraw_Codes) : Option (((Int × T_pagemenddraw_Codes) ⊕ (Bool))) :=
 if (decide (x62 < x61)) then
  Option.bind (idx x60 x62) fun y2 =>
  Option.bind (J0J y2) fun r5 =>
  Option.bind (J0D y2) fun r9 =>
  if (r5 == r9) then
   Option.bind (J5w y2) fun r14 =>
   Option.bind (J4M y2) fun r18 =>
   Option.bind (J3p r14 r18) fun r22 =>
   if r22 then
    Option.bind (Jp b2 6) fun r27 =>
    J8J x3 x4 x60 x61 x62 ([x3, r27.1] : List Int) ((List.length ([x3, r27.1] : List Int) : Nat) : Int) b1 y2 (0, r27.2)
   else
    some (.inr false)
  else
   some (.inr false)
 else
  Option.map (fun o => .inr o) (J4V x3)
theorem Jb4 {x3 x4 : Int} {x60 : List T_api_Pool} {x61 : Int} {b1 : T_api_Page} {x62 : Int} {b2 : T_pagemenddraw_Codes} {B0 B3 : List PV} {o : ((Int × T_pagemenddraw_Codes) ⊕ (Bool))} (h : J2K x3 x4 x60 x61 b1 x62 b2 = some o) :
  rk (J6 p) JD 0 [.lo 4 [3, 4, 7, 11, 60, 61, 62] Jw, .bl 0, .td 4 [3, 10], .sq (.keep [3] JB)] (X (J6 p) Jw ⟨[(3, .p (.i .i64 x3)), (4, .p (.i .i64 x4)), (7, .ptr 1 0), (11, .ptr 2 0), (60, .p (.sl 3 (List.map J3 x60))), (61, .p (.i .i64 x61)), (62, .p (.i .i64 x62))], [.box (List.map AV.p B0), .box (List.map AV.p (J9 b1)), .box (List.map AV.p (J1 b2)), .box (List.map AV.p B3)]⟩) = (J3L p x3 x4 x60 x61 b1 B0 B3) o := by
 unfold J2K at h
 rcases Jc h with ⟨h1, h⟩ | ⟨h1, h⟩
 ·obtain ⟨y2, h3, h⟩ := bi h
  have f4 := J0f (r := J3) h3
  try simp only [Nf] at f4
  obtain ⟨r5, h6, h⟩ := bi h
  have f7 := J5t p h6
  try simp only [Nf] at f7
  have f8 : ∀ ws k new s, Jf ((Jl (AF (J6 p)) J1J ([.data (J3 y2)], ws) k new).reads s) = [] := JP rfl
  try simp only [Nf] at f8
  obtain ⟨r9, h10, h⟩ := bi h
  have f11 := J4P p h10
  try simp only [Nf] at f11
  have f12 : ∀ ws k new s, Jf ((Jl (AF (J6 p)) J1n ([.data (J3 y2)], ws) k new).reads s) = [] := JP rfl
  try simp only [Nf] at f12
  try simp only [↓Da, Ua, Ra, Jw, J5, J0, J2, J8, J00, Jb, J4, *, ↓reduceIte, reduceEqDiff, reduceAdd, reduceLT, reduceMul, Nat.reduceBEq]
  rcases Jc h with ⟨h13, h⟩ | ⟨h13, h⟩
  ·obtain ⟨r14, h15, h⟩ := bi h
   have f16 := JnX p h15
   try simp only [Nf] at f16
   have f17 : ∀ ws k new s, Jf ((Jl (AF (J6 p)) J6k ([.data (J3 y2)], ws) k new).reads s) = [] := JP rfl
   try simp only [Nf] at f17
   obtain ⟨r18, h19, h⟩ := bi h
   have f20 := Jmm p h19
   try simp only [Nf] at f20
   have f21 : ∀ ws k new s, Jf ((Jl (AF (J6 p)) J5M ([.data (J3 y2)], ws) k new).reads s) = [] := JP rfl
   try simp only [Nf] at f21
   obtain ⟨r22, h23, h⟩ := bi h
   have f24 := JhA p h23
   try simp only [Nf] at f24
   have f25 : ∀ ws k new s, Jf ((Jl (AF (J6 p)) J3y ([.p (.sl 3 (List.map Je r14)), .p (.sl 3 (List.map Je r18))], ws) k new).reads s) = [] := JP rfl
   try simp only [Nf] at f25
   try simp only [↓Da, Ua, Ra, Jw, J5, J0, J2, J8, J00, Jb, J4, *, ↓reduceIte, reduceEqDiff, reduceAdd, reduceLT, reduceMul, Nat.reduceBEq]
   rcases Jc h with ⟨h26, h⟩ | ⟨h26, h⟩
   ·obtain ⟨r27, h28, h⟩ := bi h
    have f29 : ∀ ws new s, JC ws s [2] [List.map AV.p (J1 b2)] → (Jl (AF (J6 p)) Jd ([.ptr 2 0, .p (.i .i64 6)], ws) 0 new).run s = some ⟨.p (.i .i64 r27.1), ws ++ [(2, .box (List.map AV.p (J1 r27.2)))]⟩ := Jv (args' := [.ptr 0 0, .p (.i .i64 6)]) (bs := [2]) (css := [List.map AV.p (J1 b2)]) (css' := [List.map AV.p (J1 r27.2)]) rfl rfl rfl (by simp [Jg, Ja]) (Ju p h28) rfl rfl (by simp [Jg, Ja])
    try simp only [Nf] at f29
    try simp only [↓Da, Ua, Ra, Jw, J5, J0, J2, J8, J00, Jb, J4, *, ↓reduceIte, reduceEqDiff, reduceAdd, reduceLT, reduceMul, Nat.reduceBEq]
    have e0 := Je4 p (B0 := B0) (B3 := B3) h
    exact e0
   ·obtain rfl := sj h
    try simp only [↓Da, Ua, Ra, Jw, J5, J0, J2, J8, J00, Jb, J4, JS, *, ↓reduceIte, reduceEqDiff, reduceAdd, reduceLT, reduceMul, Nat.reduceBEq]
    rfl
  ·obtain rfl := sj h
   try simp only [↓Da, Ua, Ra, Jw, J5, J0, J2, J8, J00, Jb, J4, JS, *, ↓reduceIte, reduceEqDiff, reduceAdd, reduceLT, reduceMul, Nat.reduceBEq]
   rfl
 ·obtain ⟨o', h', rfl⟩ := mi h
  try simp only [↓Da, Ua, Ra, Jw, J5, J0, J2, J8, J00, Jb, J4, *, ↓reduceIte, reduceEqDiff, reduceAdd, reduceLT, reduceMul, Nat.reduceBEq]
  have e0 := JfS p (B0 := B0) (B1 := (J9 b1)) (B2 := (J1 b2)) (B3 := B3) h'
  exact e0
def J6w (x3 x4 : Int) (x60 : List T_api_Pool) (x61 : Int) (b1 : T_api_Page) (s : Int × T_pagemenddraw_Codes) : Option (Bool) :=
 JO (fun s => J2K x3 x4 x60 x61 b1 s.1 s.2) s
theorem Jef {x3 x4 : Int} {x60 : List T_api_Pool} {x61 : Int} {b1 : T_api_Page} {B0 B3 : List PV} {s : Int × T_pagemenddraw_Codes} {o : Bool} (h : J6w x3 x4 x60 x61 b1 s = some o) :
  rk (J6 p) JD 0 [.bl 0, .td 4 [3, 10], .sq (.keep [3] JB)] (X (J6 p) (.lp 4 [3, 4, 7, 11, 60, 61, 62] Jw) ⟨[(3, .p (.i .i64 x3)), (4, .p (.i .i64 x4)), (7, .ptr 1 0), (11, .ptr 2 0), (60, .p (.sl 3 (List.map J3 x60))), (61, .p (.i .i64 x61)), (62, .p (.i .i64 s.1))], [.box (List.map AV.p B0), .box (List.map AV.p (J9 b1)), .box (List.map AV.p (J1 s.2)), .box (List.map AV.p B3)]⟩) = J4G o := by
 have h0 : JO (fun s => J2K x3 x4 x60 x61 b1 s.1 s.2) s = some o := h
 exact J0M (P := fun (s : Int × T_pagemenddraw_Codes) (o : Bool) => rk (J6 p) JD 0 [.bl 0, .td 4 [3, 10], .sq (.keep [3] JB)] (X (J6 p) (.lp 4 [3, 4, 7, 11, 60, 61, 62] Jw) ⟨[(3, .p (.i .i64 x3)), (4, .p (.i .i64 x4)), (7, .ptr 1 0), (11, .ptr 2 0), (60, .p (.sl 3 (List.map J3 x60))), (61, .p (.i .i64 x61)), (62, .p (.i .i64 s.1))], [.box (List.map AV.p B0), .box (List.map AV.p (J9 b1)), .box (List.map AV.p (J1 s.2)), .box (List.map AV.p B3)]⟩) = J4G o) (fun s r hs => by rw [J0w]; exact Jb4 p hs) (fun s s1 r hs ih => by rw [J0w]; exact (Jb4 p hs).trans ih) h0
def J5T (x0 : List Int) (x1 : T_api_Pool) (x2 : T_api_Page) (x3 x4 : Int) : Option (Bool) :=
 Option.bind (J5L) fun r1 =>
 if r1 then
  if (decide (((List.length x1.Frames : Nat) : Int) > 20)) then
   some true
  else
   Option.bind (J5U x0 200) fun r6 =>
   Option.bind (J3o r6) fun r9 =>
   Option.bind (J7c r9.2 r9.1) fun r12 =>
   J6w x3 x4 ([x1, r9.1, r12.1] : List T_api_Pool) ((List.length ([x1, r9.1, r12.1] : List T_api_Pool) : Nat) : Int) x2 (0, r12.2)
 else
  some (decide (((List.length x1.Frames : Nat) : Int) > 20))
theorem JdL {x0 : List Int} {x1 : T_api_Pool} {x2 : T_api_Page} {x3 x4 : Int} {o : Bool} (h : J5T x0 x1 x2 x3 x4 = some o) :
  rk (J6 p) JD 0 [] (X (J6 p) J21 ⟨[(0, .p (.sl 1 (List.map (r_i .u8) x0))), (1, .data (J3 x1)), (2, .data (J9 x2)), (3, .p (.i .i64 x3)), (4, .p (.i .i64 x4))], []⟩) = J4G o := by
 unfold J5T at h
 obtain ⟨r1, h2, h⟩ := bi h
 have f3 := Jmf p h2
 try simp only [Nf] at f3
 try simp only [↓Da, Ua, Ra, J21, J5, J0, J2, J8, Jb, J4, *, ↓reduceIte, reduceEqDiff, reduceAdd, reduceLT, reduceMul, Nat.reduceBEq]
 rcases Jc h with ⟨h4, h⟩ | ⟨h4, h⟩
 ·try simp only [↓Da, Ua, Ra, J21, J5, J0, J2, J8, Jb, J4, *, ↓reduceIte, reduceEqDiff, reduceAdd, reduceLT, reduceMul, Nat.reduceBEq]
  rcases Jc h with ⟨h5, h⟩ | ⟨h5, h⟩
  ·obtain rfl := sj h
   try simp only [↓Da, Ua, Ra, J21, J5, J0, J2, J8, Jb, J4, JS, *, ↓reduceIte, reduceEqDiff, reduceAdd, reduceLT, reduceMul, Nat.reduceBEq]
   rfl
  ·obtain ⟨r6, h7, h⟩ := bi h
   have f8 : ∀ ws new s, (Jl (AF (J6 p)) J9D ([.p (.sl 1 (List.map (r_i .u8) x0)), .p (.i .i64 200)], ws) 1 new).run s = some ⟨.ptr new 0, ws ++ [(new, .box (List.map AV.p (J1 r6)))]⟩ := Jqs rfl (Jqk p h7) (Ja _)
   try simp only [Nf] at f8
   obtain ⟨r9, h10, h⟩ := bi h
   have f11 : ∀ ws new s, JC ws s [2] [List.map AV.p (J1 r6)] → (Jl (AF (J6 p)) J4A ([.ptr 2 0], ws) 0 new).run s = some ⟨.data (J3 r9.1), ws ++ [(2, .box (List.map AV.p (J1 r9.2)))]⟩ := Jv (args' := [.ptr 0 0]) (bs := [2]) (css := [List.map AV.p (J1 r6)]) (css' := [List.map AV.p (J1 r9.2)]) rfl rfl rfl (by simp [Jg, Ja]) (JhD p h10) rfl rfl (by simp [Jg, Ja])
   try simp only [Nf] at f11
   obtain ⟨r12, h13, h⟩ := bi h
   have f14 : ∀ ws new s, JC ws s [2] [List.map AV.p (J1 r9.2)] → (Jl (AF (J6 p)) J7e ([.ptr 2 0, .data (J3 r9.1)], ws) 0 new).run s = some ⟨.data (J3 r12.1), ws ++ [(2, .box (List.map AV.p (J1 r12.2)))]⟩ := Jv (args' := [.ptr 0 0, .data (J3 r9.1)]) (bs := [2]) (css := [List.map AV.p (J1 r9.2)]) (css' := [List.map AV.p (J1 r12.2)]) rfl rfl rfl (by simp [Jg, Ja]) (JoP p h13) rfl rfl (by simp [Jg, Ja])
   try simp only [Nf] at f14
   have f15 : ∀ ws k new s, JC ws s [2] [List.map AV.p (J1 r9.2)] → Jf ((Jl (AF (J6 p)) J7e ([.ptr 2 0, .data (J3 r9.1)], ws) k new).reads s) = [2] ++ ([2] ++ [2]) := J2D (args' := [.ptr 0 0, .data (J3 r9.1)]) (bs := [2]) (css := [List.map AV.p (J1 r9.2)]) rfl rfl rfl (by simp [Jg, Ja])
   try simp only [Nf] at f15
   try simp only [↓Da, Ua, Ra, J21, J5, J0, J2, J8, Jb, J4, *, ↓reduceIte, reduceEqDiff, reduceAdd, reduceLT, reduceMul, Nat.reduceBEq]
   have e0 := Jef p (B0 := (J3 x1)) (B3 := (J3 r9.1)) h
   exact e0
 ·obtain rfl := sj h
  try simp only [↓Da, Ua, Ra, J21, J5, J0, J2, J8, Jb, J4, JS, *, ↓reduceIte, reduceEqDiff, reduceAdd, reduceLT, reduceMul, Nat.reduceBEq]
  rfl
theorem JhL {x0 : List Int} {x1 : T_api_Pool} {x2 : T_api_Page} {x3 x4 : Int} {o : Bool} (h : J5T x0 x1 x2 x3 x4 = some o) : AF (J6 p) J7r [.p (.sl 1 (List.map (r_i .u8) x0)), .data (J3 x1), .data (J9 x2), .p (.i .i64 x3), .p (.i .i64 x4)] [] = J4G o :=
 (J0h (J6 p) (JhP p) rfl).trans (JdL p h)
end
end Go.Am
end
section
end
section
namespace Go.Am
theorem J7E {n : Int} (h1 : -9223372036854775808 ≤ n) (h2 : n ≤ 9223372036854775807) : IntKind.i64.wrap n = n := by
 simp [IntKind.wrap_i64]; omega
theorem Jh9 {α : Type} (l : List α) (k : Nat) : idx l (k : Int) = l[k]? := by simp [idx]
theorem J7d {α : Type} {n : Nat} (v : Vector α n) (k : Nat) (h : k < n) : J9L v (k : Int) = some v[k] := by
 have e : (0 : Int) ≤ k ∧ (k : Int) < n := by omega
 simp [J9L, e, h]
theorem Jbo {n k : Nat} (h : k < n) : inb n (k : Int) = some () := by
 have e : (0 : Int) ≤ k ∧ (k : Int) < n := by omega
 simp [inb, e]
theorem J1R {k : Nat} (h : k < 1000000) : IntKind.i64.wrap ((k : Int) + 1) = ((k + 1 : Nat) : Int) := by
 rw [J7E (by omega) (by omega)]; simp
theorem J2v {σ ρ : Type} {f : σ → Option (σ ⊕ ρ)} (I : σ → Prop) (m : σ → Nat) (Q : ρ → Prop)
  (h : ∀ s, I s → (∃ s', f s = some (.inl s') ∧ I s' ∧ m s' < m s) ∨ (∃ r, f s = some (.inr r) ∧ Q r)) : ∀ s, I s → ∃ r, JO f s = some r ∧ Q r := by
 have key : ∀ n s, m s ≤ n → I s → ∃ r, JO f s = some r ∧ Q r := by
  intro n
  induction n with
  | zero =>
   intro s hm hs
   rcases h s hs with ⟨s', e, hs', hlt⟩ | ⟨r, e, hq⟩
   ·omega
   ·exact ⟨r, J2j e, hq⟩
  | succ n ih =>
   intro s hm hs
   rcases h s hs with ⟨s', e, hs', hlt⟩ | ⟨r, e, hq⟩
   ·obtain ⟨r, hr, hq⟩ := ih s' (by omega) hs'
    exact ⟨r, (J2U e).trans hr, hq⟩
   ·exact ⟨r, J2j e, hq⟩
 exact fun s hs => key (m s) s (Nat.le_refl _) hs
structure J03 (b : T_pagemenddraw_Codes) : Prop where
 at0 : 0 ≤ b.at_
 at1 : b.at_ ≤ b.l_.length
 len : b.l_.length ≤ 1000
 byte : ∀ x ∈ b.l_, 0 ≤ x ∧ x ≤ 255
theorem JjT {b : T_pagemenddraw_Codes} (hb : J03 b) {n : Int} (h1 : 1 ≤ n) (h2 : n ≤ 256) (m : Nat) : ∃ r b', J0H (m + 1) b n = some (r, b') ∧ J03 b' ∧ 0 ≤ r ∧ r < n := by
 obtain ⟨ha, hb1, hl, hx⟩ := hb
 simp only [J0H, J2I]
 by_cases hc : b.at_ ≥ (b.l_.length : Int)
 ·exact ⟨0, b, by simp [hc], ⟨ha, hb1, hl, hx⟩, by omega, by omega⟩
 ·obtain ⟨k, hk⟩ : ∃ k : Nat, b.at_ = (k : Int) := ⟨b.at_.toNat, by omega⟩
  have hk2 : k < b.l_.length := by omega
  have hy := hx _ (List.getElem_mem hk2)
  have e1 : ¬ n < 1 := by omega
  have e2 : ¬ n > 256 := by omega
  have e3 : idx b.l_ b.at_ = some b.l_[k] := by rw [hk, Jh9, List.getElem?_eq_getElem hk2]
  have e4 : ¬ n = 0 := by omega
  refine ⟨(b.l_[k]).tmod n, ⟨b.l_, b.at_ + 1⟩, ?_, ⟨by show 0 ≤ b.at_ + 1; omega, by show b.at_ + 1 ≤ (b.l_.length : Int); omega, hl, hx⟩, Int.tmod_nonneg _ hy.1, Int.tmod_lt_of_pos _ (by omega)⟩
  simp only [hc, decide_false, e1, e2, e3, Option.bind_some, Jbm, e4, if_false, Bool.false_eq_true]
  rw [J7E (by omega) (by omega), J7E (by omega) (by omega)]
theorem J3e {b : T_pagemenddraw_Codes} (hb : J03 b) {n : Int} (h1 : 1 ≤ n) (h2 : n ≤ 256) : ∃ r b', Jp b n = some (r, b') ∧ J03 b' ∧ 0 ≤ r ∧ r < n := JjT hb h1 h2 11
theorem JvJ {l : List Int} (h : ∀ x ∈ l, 0 ≤ x ∧ x ≤ 255) {n : Nat} (hn : n ≤ 1000) : ∃ b, J5U l (n : Int) = some b ∧ J03 b := by
 unfold J5U J93
 by_cases hc : (l.length : Int) > n
 ·have : J8L l none (some (n : Int)) = some (l.take n) := by
   have e1 : (0 : Int) ≤ n ∧ n ≤ l.length := by omega
   have e2 : n ≤ l.length := by omega
   simp [J8L, JiF, JeZ, e2]
  refine ⟨⟨l.take n, 0⟩, by simp [hc, this], ⟨by show (0 : Int) ≤ 0; omega, by show (0 : Int) ≤ _; omega, by simp; omega, fun x hx => h x (List.mem_of_mem_take hx)⟩⟩
 ·exact ⟨⟨l, 0⟩, by simp [hc], ⟨by show (0 : Int) ≤ 0; omega, by show (0 : Int) ≤ _; omega, by show l.length ≤ 1000; omega, h⟩⟩
theorem Jh1 {b : T_pagemenddraw_Codes} (hb : J03 b) {n : Int} (h0 : 0 ≤ n) (h1 : n ≤ 20) : ∃ s b', J3K n b = some (s, b') ∧ J03 b' := by
 have e0 : mkS 1 0 n (0 : Int) = some [] := by
  have : (0 : Int) ≤ n ∧ 1 * n ≤ 281474976710656 ∧ n ≤ 281474976710656 := by omega
  simp [mkS]; omega
 unfold J3K
 simp only [e0, Option.bind_some]
 obtain ⟨r, hr, hq⟩ := J2v (f := fun s : Int × T_pagemenddraw_Codes × List Int => J2Q n s.1 s.2.1 s.2.2)
  (fun s => ∃ k : Nat, s.1 = k ∧ (k : Int) ≤ n ∧ J03 s.2.1 ∧ s.2.2.length = k) (fun s => (n - s.1).toNat) (fun r => J03 r.2)
  (fun s ⟨k, hk, hn, hc, hl⟩ => by
   obtain ⟨i, b, l⟩ := s
   simp only at hk hc hl
   subst hk
   by_cases hlt : (k : Int) < n
   ·left
    obtain ⟨r, b', e1, hb', _, _⟩ := J3e hc (n := 3) (by omega) (by omega)
    have e2 : J3h (l.length + 1) 1 = true := by simp [J3h]; omega
    have e3 : ∀ z : Int, Jah 1 l [z] = some (l ++ [z]) := fun z => by simp only [Jah, List.length_cons, List.length_nil, Nat.zero_add, e2, if_true]
    refine ⟨⟨((k + 1 : Nat) : Int), b', l ++ [IntKind.wrap .u8 (IntKind.wrap .i64 (97 + r))]⟩, ?_, ⟨k + 1, rfl, by simp; omega, hb', by simp [hl]⟩, by simp; omega⟩
    simp only [J2Q, hlt, decide_true, if_true, e1, e3, Option.bind_some, J1R (show k < 1000000 by omega)]
   ·right
    refine ⟨(toStr l, b), ?_, hc⟩
    simp [J2Q, J6x, hlt])
  (0, b, []) ⟨0, rfl, by simpa using h0, hb, rfl⟩
 exact ⟨r.1, r.2, hr, hq⟩
def JpN (c : Jk) : Prop := c.Data.length ≤ 12 ∧ (c.Set = false → c.Data = [])
theorem Jln {b : T_pagemenddraw_Codes} (hb : J03 b) : ∃ c b', J3x b = some (c, b') ∧ J03 b' ∧ JpN c := by
 obtain ⟨r, b1, e1, hb1, _, _⟩ := J3e hb (n := 3) (by omega) (by omega)
 unfold J3x
 simp only [e1, Option.bind_some]
 by_cases h0 : r = 0
 ·exact ⟨⟨false, []⟩, b1, by simp [h0], hb1, by simp [JpN]⟩
 ·have hd : ∃ s b', J1Z b1 = some (s, b') ∧ J03 b' := by
   unfold J1Z
   obtain ⟨r1, b2, e2, hb2, h21, h22⟩ := J3e hb1 (n := 5) (by omega) (by omega)
   obtain ⟨r2, b3, e3, hb3, _, _⟩ := J3e hb2 (n := 6) (by omega) (by omega)
   simp only [e2, e3, Option.bind_some]
   by_cases h6 : r2 = 0
   ·obtain ⟨r3, b4, e4, hb4, h41, h42⟩ := J3e hb3 (n := 14) (by omega) (by omega)
    obtain ⟨s, b5, e5, hb5⟩ := Jh1 hb4 h41 (by omega)
    exact ⟨s, b5, by simp [h6, e4, e5], hb5⟩
   ·obtain ⟨s, b5, e5, hb5⟩ := Jh1 hb3 h21 (by omega)
    exact ⟨s, b5, by simp [h6, e5], hb5⟩
  obtain ⟨s, b2, e2, hb2⟩ := hd
  have e3 : J8L s none (some (JiC (s.length : Int) 12)) = some (s.take (min s.length 12)) := by
   have e4 : JiC (s.length : Int) 12 = ((min s.length 12 : Nat) : Int) := by unfold JiC; split <;> omega
   have e5 : min s.length 12 ≤ s.length := by omega
   rw [e4]
   simp only [J8L, JiF, JeZ]
   have e6 : (0 : Int) ≤ ((min s.length 12 : Nat) : Int) ∧ ((min s.length 12 : Nat) : Int) ≤ ((s.length : Nat) : Int) := by omega
   simp only [e6, and_self, if_true, Int.toNat_natCast, List.drop_zero, Nat.sub_zero]
  refine ⟨⟨true, s.take (min s.length 12)⟩, b2, ?_, hb2, ?_⟩
  ·simp only [e2, Option.bind_some, e3]
   simp [h0]
  ·refine ⟨?_, fun h => by cases h⟩
   simp only [List.length_take]; omega
def J6j (lsn : Int) (c : Jk) : Prop := c.Data.length ≤ 12 ∧ (c.Set = false → c.Data = []) ∧ (c.Set = true → lsn ≠ 0)
structure JbF (p : T_api_Page) : Prop where
 id0 : 0 ≤ p.ID
 id1 : p.ID < 64
 lsn0 : 0 ≤ p.LSN
 lsn1 : p.LSN ≤ 1099511627776
 cells : ∀ (i : Nat) (h : i < 16), J6j p.LSN (p.Cells[i])
theorem JnH {id lsn : Int} (h0 : 0 ≤ id) (h1 : id < 64) (h2 : 0 ≤ lsn) (h3 : lsn ≤ 1099511627776) : JbF ⟨id, lsn, Vector.replicate 16 ⟨false, []⟩⟩ :=
 ⟨h0, h1, h2, h3, fun i h => by simp [J6j]⟩
end Go.Am
end
