/-
  Parts of a proof.
-/
import Derived.Test.YtiallbcnaadmoaaM9
open Nat (reduceEqDiff reduceAdd reduceLT reduceMul)
set_option linter.unusedSimpArgs false
set_option linter.unusedVariables false
section
namespace Go.Am
set_option maxRecDepth 8000
set_option maxHeartbeats 4000000
set_option linter.unusedSimpArgs false
set_option linter.unusedVariables false
noncomputable section
variable (p : FuncId → Option (List AV → List Blk → Option Res))
def JeT (x0 : Int) : Option (T_api_Page) :=
 some (⟨x0, 0, (Vector.replicate 16 (⟨false, []⟩ : J8))⟩ : T_api_Page)
def Jdi  (r : Bool) : Option Res := some (.p (.b r), [])
def J0O (x0 : Int) : Option (Bool) :=
 if (decide (x0 ≥ 0)) then
  some (decide (x0 < 64))
 else
  some false
theorem Jfa {x0 : Int} {o : Bool} (h : J0O x0 = some o) :
  rk (J1 p) J60 0 [] (X (J1 p) J65 ⟨[(0, .p (.i .i64 x0))], []⟩) = Jdi o := by
 unfold J0O at h
 rcases Jd h with ⟨h1, h⟩ | ⟨h1, h⟩
 ·obtain rfl := sj h
  try simp only [↓Da, Ua, J65, Jdk, *, ↓reduceIte, reduceEqDiff, reduceAdd, reduceLT, reduceMul]
  rfl
 ·obtain rfl := sj h
  try simp only [↓Da, Ua, J65, Jdk, *, ↓reduceIte, reduceEqDiff, reduceAdd, reduceLT, reduceMul]
  rfl
theorem JkD {x0 : Int} {o : Bool} (h : J0O x0 = some o) : AF (J1 p) J4J [.p (.i .i64 x0)] [] = Jdi o :=
 (J14 (J1 p) (JkF p) rfl).trans (Jfa p h)
theorem Jdg {x0 : Int} {o : Bool} (h : J0O x0 = some o) : ∀ ws new st, (Jq (AF (J1 p)) J4J ([.p (.i .i64 x0)], ws) 0 new).run st = some ⟨.p (.b o), ws⟩ := JE rfl (JkD p h) rfl
def Jg5  (r : T_api_Page) : Option Res := some (.data (J3 r), [])
def J7e (x0 : Int) : Option (T_api_Page) :=
 some (⟨x0, 0, (Vector.replicate 16 (⟨false, []⟩ : J8))⟩ : T_api_Page)
theorem Jht {x0 : Int} {o : T_api_Page} (h : J7e x0 = some o) :
  rk (J1 p) J7m 0 [] (X (J1 p) J8K ⟨[(0, .p (.i .i64 x0))], []⟩) = Jg5 o := by
 unfold J7e at h
 obtain rfl := sj h
 try simp only [↓Da, Ua, J8K, J5, J2, J6, Jn3, ↓reduceIte, reduceEqDiff, reduceAdd, reduceLT, reduceMul]
 rfl
theorem Jmv {x0 : Int} {o : T_api_Page} (h : J7e x0 = some o) : AF (J1 p) J7f [.p (.i .i64 x0)] [] = Jg5 o :=
 (J14 (J1 p) (JmG p) rfl).trans (Jht p h)
theorem JmW {x0 : Int} {o : T_api_Page} (h : J7e x0 = some o) : ∀ ws new st, (Jq (AF (J1 p)) J7f ([.p (.i .i64 x0)], ws) 0 new).run st = some ⟨.data (J3 o), ws⟩ := JE rfl (Jmv p h) rfl
def J31  (r : (Vector Int 16)) : Option Res := some (.data ((JW (r_i .u32)) r), [])
def J2f (b0 : Vector Int 16) (o : (Int × (Vector Int 16)) ⊕ ((Vector Int 16))) : Option Res := match o with
 | .inl s => rk (J1 p) JS 0 [.bl 0, .sq (.keep [0, 1] J04)] (X (J1 p) (.lp 2 [0, 1, 4] JX) ⟨[(0, .ptr 0 0), (1, .ptr 1 0), (4, .p (.i .i64 s.1))], [.box (List.map AV.p ((JW (r_i .u32)) b0)), .box (List.map AV.p ((JW (r_i .u32)) s.2))]⟩)
 | .inr o => J31 o
def JbY (x2 x4 : Int) (b0 b1 : Vector Int 16) (o : (Int × Int) ⊕ (((Int × (Vector Int 16)) ⊕ ((Vector Int 16))))) : Option Res := match o with
 | .inl s => rk (J1 p) JS 0 [.bl 2, .sq (.keep [0, 1, 2, 3, 4] J1J), .bl 1, .sq (.keep [0, 1, 4] J1j), .lo 2 [0, 1, 4] JX, .bl 0, .sq (.keep [0, 1] J04)] (X (J1 p) (.lp 2 [0, 1, 2, 3, 4, 9] J0C) ⟨[(0, .ptr 0 0), (1, .ptr 1 0), (2, .p (.i .i64 x2)), (3, .p (.i .u32 s.1)), (4, .p (.i .i64 x4)), (9, .p (.i .i64 s.2))], [.box (List.map AV.p ((JW (r_i .u32)) b0)), .box (List.map AV.p ((JW (r_i .u32)) b1))]⟩)
 | .inr o => (J2f p b0) o
def J3h (x4 : Int) (b0 b1 : Vector Int 16) : Option (((Int × (Vector Int 16)) ⊕ ((Vector Int 16)))) :=
 some (.inl ((IntKind.wrap .i64 (x4 + 1)), b1))
theorem JbL {x4 : Int} {b0 b1 : Vector Int 16} {o : ((Int × (Vector Int 16)) ⊕ ((Vector Int 16)))} (h : J3h x4 b0 b1 = some o) :
  rk (J1 p) JS 0 [.lo 2 [0, 1, 4] JX, .bl 0, .sq (.keep [0, 1] J04)] (X (J1 p) J1j ⟨[(0, .ptr 0 0), (1, .ptr 1 0), (4, .p (.i .i64 x4))], [.box (List.map AV.p ((JW (r_i .u32)) b0)), .box (List.map AV.p ((JW (r_i .u32)) b1))]⟩) = (J2f p b0) o := by
 unfold J3h at h
 obtain rfl := sj h
 try simp only [↓Da, Ua, J1j, ↓reduceIte, reduceEqDiff, reduceAdd, reduceLT, reduceMul]
 rfl
def J3d (x2 x3 x4 : Int) (b0 b1 : Vector Int 16) : Option (((Int × (Vector Int 16)) ⊕ ((Vector Int 16)))) :=
 Option.bind (inb 16 x2) fun u1 =>
 Option.bind (J6Q b1 x2) fun y4 =>
 J3h x4 b0 (J70 b1 x2 x3)
theorem JbN {x2 x3 x4 : Int} {b0 b1 : Vector Int 16} {o : ((Int × (Vector Int 16)) ⊕ ((Vector Int 16)))} (h : J3d x2 x3 x4 b0 b1 = some o) :
  rk (J1 p) JS 0 [.bl 1, .sq (.keep [0, 1, 4] J1j), .lo 2 [0, 1, 4] JX, .bl 0, .sq (.keep [0, 1] J04)] (X (J1 p) J1J ⟨[(0, .ptr 0 0), (1, .ptr 1 0), (2, .p (.i .i64 x2)), (3, .p (.i .u32 x3)), (4, .p (.i .i64 x4))], [.box (List.map AV.p ((JW (r_i .u32)) b0)), .box (List.map AV.p ((JW (r_i .u32)) b1))]⟩) = (J2f p b0) o := by
 unfold J3d at h
 obtain ⟨u1, h2, h⟩ := bi h
 have f3 : (0 ≤ (x2 : Int) ∧ (x2 : Int) < ((16 : Nat) : Int)) = True := eq_true (J8f h2)
 obtain ⟨y4, h5, h⟩ := bi h
 have f6 : spl ((JW (r_i .u32)) b1) (Int.toNat x2 * 1) ((r_i .u32) x3) = some ((JW (r_i .u32)) (J70 b1 x2 x3)) := by
  have e0 := (JjM (v := b1) (J8X .u32) (Jhs h5) x3)
  exact e0
 try simp only [Nf] at f6
 try simp only [↓Da, Ua, J1J, *, ↓reduceIte, reduceEqDiff, reduceAdd, reduceLT, reduceMul]
 have e0 := JbL p h
 exact e0
def J0k (x2 x4 : Int) (b0 b1 : Vector Int 16) (x3 x9 : Int) : Option (((Int × Int) ⊕ (((Int × (Vector Int 16)) ⊕ ((Vector Int 16)))))) :=
 if (decide (x9 < 4)) then
  if (((J3P .u32 x3 1) : Int) == 1) then
   Option.bind (J6P .u32 x3 1) fun q3 =>
   some (.inl ((J4U .u32 q3 2197175160), (IntKind.wrap .i64 (x9 + 1))))
  else
   Option.bind (J6P .u32 x3 1) fun q5 =>
   some (.inl (q5, (IntKind.wrap .i64 (x9 + 1))))
 else
  Option.map (fun o => .inr o) (J3d x2 x3 x4 b0 b1)
theorem J8E {x2 x4 : Int} {b0 b1 : Vector Int 16} {x3 x9 : Int} {o : ((Int × Int) ⊕ (((Int × (Vector Int 16)) ⊕ ((Vector Int 16)))))} (h : J0k x2 x4 b0 b1 x3 x9 = some o) :
  rk (J1 p) JS 0 [.lo 2 [0, 1, 2, 3, 4, 9] J0C, .bl 2, .sq (.keep [0, 1, 2, 3, 4] J1J), .bl 1, .sq (.keep [0, 1, 4] J1j), .lo 2 [0, 1, 4] JX, .bl 0, .sq (.keep [0, 1] J04)] (X (J1 p) J0C ⟨[(0, .ptr 0 0), (1, .ptr 1 0), (2, .p (.i .i64 x2)), (3, .p (.i .u32 x3)), (4, .p (.i .i64 x4)), (9, .p (.i .i64 x9))], [.box (List.map AV.p ((JW (r_i .u32)) b0)), .box (List.map AV.p ((JW (r_i .u32)) b1))]⟩) = (JbY p x2 x4 b0 b1) o := by
 unfold J0k at h
 rcases Jd h with ⟨h1, h⟩ | ⟨h1, h⟩
 ·try simp only [↓Da, Ua, J0C, *, ↓reduceIte, reduceEqDiff, reduceAdd, reduceLT, reduceMul]
  rcases Jd h with ⟨h2, h⟩ | ⟨h2, h⟩
  ·have h2n : (((J3P .u32 x3 1) : Int) != 1) = false := by rw [bne, h2]; rfl
   obtain ⟨q3, h4, h⟩ := bi h
   obtain rfl := sj h
   try simp only [↓Da, Ua, J0C, *, ↓reduceIte, reduceEqDiff, reduceAdd, reduceLT, reduceMul]
   rfl
  ·have h2n : (((J3P .u32 x3 1) : Int) != 1) = true := by rw [bne, h2]; rfl
   obtain ⟨q5, h6, h⟩ := bi h
   obtain rfl := sj h
   try simp only [↓Da, Ua, J0C, *, ↓reduceIte, reduceEqDiff, reduceAdd, reduceLT, reduceMul]
   rfl
 ·obtain ⟨o', h', rfl⟩ := mi h
  try simp only [↓Da, Ua, J0C, *, ↓reduceIte, reduceEqDiff, reduceAdd, reduceLT, reduceMul]
  have e0 := JbN p h'
  exact e0
def J6g (x2 x4 : Int) (b0 b1 : Vector Int 16) (s : Int × Int) : Option (((Int × (Vector Int 16)) ⊕ ((Vector Int 16)))) :=
 Ju (fun s => J0k x2 x4 b0 b1 s.1 s.2) s
theorem Jbg {x2 x4 : Int} {b0 b1 : Vector Int 16} {s : Int × Int} {o : ((Int × (Vector Int 16)) ⊕ ((Vector Int 16)))} (h : J6g x2 x4 b0 b1 s = some o) :
  rk (J1 p) JS 0 [.bl 2, .sq (.keep [0, 1, 2, 3, 4] J1J), .bl 1, .sq (.keep [0, 1, 4] J1j), .lo 2 [0, 1, 4] JX, .bl 0, .sq (.keep [0, 1] J04)] (X (J1 p) (.lp 2 [0, 1, 2, 3, 4, 9] J0C) ⟨[(0, .ptr 0 0), (1, .ptr 1 0), (2, .p (.i .i64 x2)), (3, .p (.i .u32 s.1)), (4, .p (.i .i64 x4)), (9, .p (.i .i64 s.2))], [.box (List.map AV.p ((JW (r_i .u32)) b0)), .box (List.map AV.p ((JW (r_i .u32)) b1))]⟩) = (J2f p b0) o := by
 have h0 : Ju (fun s => J0k x2 x4 b0 b1 s.1 s.2) s = some o := h
 exact J0T (P := fun (s : Int × Int) (o : ((Int × (Vector Int 16)) ⊕ ((Vector Int 16)))) => rk (J1 p) JS 0 [.bl 2, .sq (.keep [0, 1, 2, 3, 4] J1J), .bl 1, .sq (.keep [0, 1, 4] J1j), .lo 2 [0, 1, 4] JX, .bl 0, .sq (.keep [0, 1] J04)] (X (J1 p) (.lp 2 [0, 1, 2, 3, 4, 9] J0C) ⟨[(0, .ptr 0 0), (1, .ptr 1 0), (2, .p (.i .i64 x2)), (3, .p (.i .u32 s.1)), (4, .p (.i .i64 x4)), (9, .p (.i .i64 s.2))], [.box (List.map AV.p ((JW (r_i .u32)) b0)), .box (List.map AV.p ((JW (r_i .u32)) b1))]⟩) = (J2f p b0) o) (fun s r hs => by rw [J19]; exact J8E p hs) (fun s s1 r hs ih => by rw [J19]; exact (J8E p hs).trans ih) h0
def J3a (b0 b1 : Vector Int 16) : Option ((Vector Int 16)) :=
 some b1
theorem Jcd {b0 b1 : Vector Int 16} {o : (Vector Int 16)} (h : J3a b0 b1 = some o) :
  rk (J1 p) JS 0 [] (X (J1 p) J04 ⟨[(0, .ptr 0 0), (1, .ptr 1 0)], [.box (List.map AV.p ((JW (r_i .u32)) b0)), .box (List.map AV.p ((JW (r_i .u32)) b1))]⟩) = J31 o := by
 unfold J3a at h
 obtain rfl := sj h
 try simp only [↓Da, Ua, J04, J5v, Jdt, ↓reduceIte, reduceEqDiff, reduceAdd, reduceLT, reduceMul]
 rfl
def J0E (b0 : Vector Int 16) (x4 : Int) (b1 : Vector Int 16) : Option (((Int × (Vector Int 16)) ⊕ ((Vector Int 16)))) :=
 if (decide (x4 < 16)) then
  J6g x4 x4 b0 b1 ((IntKind.wrap .u32 x4), 0)
 else
  Option.map (fun o => .inr o) (J3a b0 b1)
theorem J8t {b0 : Vector Int 16} {x4 : Int} {b1 : Vector Int 16} {o : ((Int × (Vector Int 16)) ⊕ ((Vector Int 16)))} (h : J0E b0 x4 b1 = some o) :
  rk (J1 p) JS 0 [.lo 2 [0, 1, 4] JX, .bl 0, .sq (.keep [0, 1] J04)] (X (J1 p) JX ⟨[(0, .ptr 0 0), (1, .ptr 1 0), (4, .p (.i .i64 x4))], [.box (List.map AV.p ((JW (r_i .u32)) b0)), .box (List.map AV.p ((JW (r_i .u32)) b1))]⟩) = (J2f p b0) o := by
 unfold J0E at h
 rcases Jd h with ⟨h1, h⟩ | ⟨h1, h⟩
 ·try simp only [↓Da, Ua, JX, *, ↓reduceIte, reduceEqDiff, reduceAdd, reduceLT, reduceMul]
  have e0 := Jbg p h
  exact e0
 ·obtain ⟨o', h', rfl⟩ := mi h
  try simp only [↓Da, Ua, JX, *, ↓reduceIte, reduceEqDiff, reduceAdd, reduceLT, reduceMul]
  have e0 := Jcd p h'
  exact e0
def J8z (b0 : Vector Int 16) (s : Int × (Vector Int 16)) : Option ((Vector Int 16)) :=
 Ju (fun s => J0E b0 s.1 s.2) s
theorem Jb3 {b0 : Vector Int 16} {s : Int × (Vector Int 16)} {o : (Vector Int 16)} (h : J8z b0 s = some o) :
  rk (J1 p) JS 0 [.bl 0, .sq (.keep [0, 1] J04)] (X (J1 p) (.lp 2 [0, 1, 4] JX) ⟨[(0, .ptr 0 0), (1, .ptr 1 0), (4, .p (.i .i64 s.1))], [.box (List.map AV.p ((JW (r_i .u32)) b0)), .box (List.map AV.p ((JW (r_i .u32)) s.2))]⟩) = J31 o := by
 have h0 : Ju (fun s => J0E b0 s.1 s.2) s = some o := h
 exact J0T (P := fun (s : Int × (Vector Int 16)) (o : (Vector Int 16)) => rk (J1 p) JS 0 [.bl 0, .sq (.keep [0, 1] J04)] (X (J1 p) (.lp 2 [0, 1, 4] JX) ⟨[(0, .ptr 0 0), (1, .ptr 1 0), (4, .p (.i .i64 s.1))], [.box (List.map AV.p ((JW (r_i .u32)) b0)), .box (List.map AV.p ((JW (r_i .u32)) s.2))]⟩) = J31 o) (fun s r hs => by rw [J19]; exact J8t p hs) (fun s s1 r hs ih => by rw [J19]; exact (J8t p hs).trans ih) h0
def J2a  : Option ((Vector Int 16)) :=
 J8z (Vector.replicate 16 0) (0, (Vector.replicate 16 0))
theorem JaY  {o : (Vector Int 16)} (h : J2a = some o) :
  rk (J1 p) JS 0 [] (X (J1 p) J3Z ⟨[], []⟩) = J31 o := by
 unfold J2a at h
 try simp only [↓Da, Ua, J3Z, J5v, ↓reduceIte, reduceEqDiff, reduceAdd, reduceLT, reduceMul]
 have e0 := Jb3 p h
 exact e0
theorem JdO  {o : (Vector Int 16)} (h : J2a = some o) : AF (J1 p) J2X [] [] = J31 o :=
 (J14 (J1 p) (Jdv p) rfl).trans (JaY p h)
theorem JdG  {o : (Vector Int 16)} (h : J2a = some o) : ∀ ws new st, (Jq (AF (J1 p)) J2X ([], ws) 0 new).run st = some ⟨.data ((JW (r_i .u32)) o), ws⟩ := JE rfl (JdO p h) rfl
def Jaq  (r : Int) : Option Res := some (.p (.i .i64 r), [])
def J27 (x0 : T_api_Copy) (x1 : Int) : Option (Int) :=
 some (IntKind.wrap .i64 (x0.Page - x1))
theorem Jc5 {x0 : T_api_Copy} {x1 o : Int} (h : J27 x0 x1 = some o) :
  rk (J1 p) J3N 0 [] (X (J1 p) J4I ⟨[(0, .data (J7 x0)), (1, .p (.i .i64 x1))], []⟩) = Jaq o := by
 unfold J27 at h
 obtain rfl := sj h
 try simp only [↓Da, Ua, J4I, Je, Jfv, ↓reduceIte, reduceEqDiff, reduceAdd, reduceLT, reduceMul]
 rfl
theorem Jfu {x0 : T_api_Copy} {x1 o : Int} (h : J27 x0 x1 = some o) : AF (J1 p) J0b [.data (J7 x0), .p (.i .i64 x1)] [] = Jaq o :=
 (J14 (J1 p) (Jfm p) rfl).trans (Jc5 p h)
theorem Jal {x0 : T_api_Copy} {x1 o : Int} (h : J27 x0 x1 = some o) : ∀ ws new st, (Jq (AF (J1 p)) J0b ([.data (J7 x0), .p (.i .i64 x1)], ws) 0 new).run st = some ⟨.p (.i .i64 o), ws⟩ := JE rfl (Jfu p h) rfl
def J9F  (r : Bool) : Option Res := some (.p (.b r), [])
def J0l (x0 : J8) : Option (Bool) :=
 if (decide (((List.length x0.Data : Nat) : Int) ≤ 12)) then
  if x0.Set then
   some true
  else
   some (x0.Data == [])
 else
  some false
theorem JbG {x0 : J8} {o : Bool} (h : J0l x0 = some o) :
  rk (J1 p) J3u 0 [] (X (J1 p) J1V ⟨[(0, .data (Jb x0))], []⟩) = J9F o := by
 unfold J0l at h
 rcases Jd h with ⟨h1, h⟩ | ⟨h1, h⟩
 ·try simp only [↓Da, Ua, J1V, J5, *, ↓reduceIte, reduceEqDiff, reduceAdd, reduceLT, reduceMul]
  rcases Jd h with ⟨h2, h⟩ | ⟨h2, h⟩
  ·obtain rfl := sj h
   try simp only [↓Da, Ua, J1V, J5, J7w, *, ↓reduceIte, reduceEqDiff, reduceAdd, reduceLT, reduceMul]
   rfl
  ·obtain rfl := sj h
   try simp only [↓Da, Ua, J1V, J5, J7w, *, ↓reduceIte, reduceEqDiff, reduceAdd, reduceLT, reduceMul]
   rfl
 ·obtain rfl := sj h
  try simp only [↓Da, Ua, J1V, J5, J7w, *, ↓reduceIte, reduceEqDiff, reduceAdd, reduceLT, reduceMul]
  rfl
theorem Jec {x0 : J8} {o : Bool} (h : J0l x0 = some o) : AF (J1 p) J3o [.data (Jb x0)] [] = J9F o :=
 (J14 (J1 p) (Jej p) rfl).trans (JbG p h)
theorem Jes {x0 : J8} {o : Bool} (h : J0l x0 = some o) : ∀ ws new st, (Jq (AF (J1 p)) J3o ([.data (Jb x0)], ws) 0 new).run st = some ⟨.p (.b o), ws⟩ := JE rfl (Jec p h) rfl
def Jcx  (r : Int) : Option Res := some (.p (.i .i64 r), [])
def Jy (x0 : List UInt8) (x1 x2 : Int) : Option (Int) :=
 Option.bind (J09 x0 x1 x2) fun r1 =>
 some r1.1
theorem Je8 {x0 : List UInt8} {x1 x2 o : Int} (h : Jy x0 x1 x2 = some o) :
  rk (J1 p) J5g 0 [] (X (J1 p) J6u ⟨[(0, .p (.s x0)), (1, .p (.i .i64 x1)), (2, .p (.i .i64 x2))], []⟩) = Jcx o := by
 unfold Jy at h
 obtain ⟨r1, h2, h⟩ := bi h
 have f3 := Jl4 p h2
 try simp only [Nf] at f3
 obtain rfl := sj h
 try simp only [↓Da, Ua, J6u, Jj5, *, ↓reduceIte, reduceEqDiff, reduceAdd, reduceLT, reduceMul]
 rfl
theorem Jjn {x0 : List UInt8} {x1 x2 o : Int} (h : Jy x0 x1 x2 = some o) : AF (J1 p) J2O [.p (.s x0), .p (.i .i64 x1), .p (.i .i64 x2)] [] = Jcx o :=
 (J14 (J1 p) (Jji p) rfl).trans (Je8 p h)
theorem J7L {x0 : List UInt8} {x1 x2 o : Int} (h : Jy x0 x1 x2 = some o) : ∀ ws new st, (Jq (AF (J1 p)) J2O ([.p (.s x0), .p (.i .i64 x1), .p (.i .i64 x2)], ws) 0 new).run st = some ⟨.p (.i .i64 o), ws⟩ := JE rfl (Jjn p h) rfl
def J6C  (r : T_api_Page × Bool) : Option Res := some (.tup [.data (J3 r.1), .p (.b r.2)], [])
def JiE (x0 : List UInt8) (b0 : T_api_Page) (o : (Int × T_api_Page) ⊕ (T_api_Page × Bool)) : Option Res := match o with
 | .inl s => rk (J1 p) J2C 0 [.bl 0, .sq (.keep [2, 4] J4d)] (X (J1 p) (.lp 2 [0, 2, 4, 13] J1v) ⟨[(0, .p (.s x0)), (2, .ptr 0 0), (4, .ptr 1 0), (13, .p (.i .i64 s.1))], [.box (List.map AV.p (J3 b0)), .box (List.map AV.p (J3 s.2))]⟩)
 | .inr o => J6C o
def J4l (b0 b1 : T_api_Page) : Option (T_api_Page × Bool) :=
 some (b1, true)
theorem JiT {b0 b1 : T_api_Page} {o : T_api_Page × Bool} (h : J4l b0 b1 = some o) :
  rk (J1 p) J2C 0 [] (X (J1 p) J4d ⟨[(2, .ptr 0 0), (4, .ptr 1 0)], [.box (List.map AV.p (J3 b0)), .box (List.map AV.p (J3 b1))]⟩) = J6C o := by
 unfold J4l at h
 obtain rfl := sj h
 try simp only [↓Da, Ua, J4d, J5, J2, J6, JeI, ↓reduceIte, reduceEqDiff, reduceAdd, reduceLT, reduceMul]
 rfl
def J0f (x0 : List UInt8) (b0 : T_api_Page) (x13 : Int) (b1 : T_api_Page) : Option (((Int × T_api_Page) ⊕ (T_api_Page × Bool))) :=
 if (decide (x13 < 16)) then
  Option.bind (Jy x0 (IntKind.wrap .i64 (12 + (IntKind.wrap .i64 (x13 * 13)))) 1) fun r2 =>
  if ((r2 : Int) == 255) then
   some (.inl ((IntKind.wrap .i64 (x13 + 1)), b1))
  else
   if (decide (r2 > 12)) then
    some (.inr ((⟨0, 0, (Vector.replicate 16 (⟨false, []⟩ : J8))⟩ : T_api_Page), false))
   else
    Option.bind (J28 x0 (some (IntKind.wrap .i64 ((IntKind.wrap .i64 (12 + (IntKind.wrap .i64 (x13 * 13)))) + 1))) (some (IntKind.wrap .i64 ((IntKind.wrap .i64 ((IntKind.wrap .i64 (12 + (IntKind.wrap .i64 (x13 * 13)))) + 1)) + r2)))) fun m7 =>
    Option.bind (inb 16 x13) fun u10 =>
    Option.bind (J6Q b1.Cells x13) fun y13 =>
    some (.inl ((IntKind.wrap .i64 (x13 + 1)), (⟨b1.ID, b1.LSN, (J70 b1.Cells x13 (⟨true, m7⟩ : J8))⟩ : T_api_Page)))
 else
  Option.map (fun o => .inr o) (J4l b0 b1)
theorem JcC {x0 : List UInt8} {b0 : T_api_Page} {x13 : Int} {b1 : T_api_Page} {o : ((Int × T_api_Page) ⊕ (T_api_Page × Bool))} (h : J0f x0 b0 x13 b1 = some o) :
  rk (J1 p) J2C 0 [.lo 2 [0, 2, 4, 13] J1v, .bl 0, .sq (.keep [2, 4] J4d)] (X (J1 p) J1v ⟨[(0, .p (.s x0)), (2, .ptr 0 0), (4, .ptr 1 0), (13, .p (.i .i64 x13))], [.box (List.map AV.p (J3 b0)), .box (List.map AV.p (J3 b1))]⟩) = (JiE p x0 b0) o := by
 unfold J0f at h
 rcases Jd h with ⟨h1, h⟩ | ⟨h1, h⟩
 ·obtain ⟨r2, h3, h⟩ := bi h
  have f4 := J7L p h3
  try simp only [Nf] at f4
  try simp only [↓Da, Ua, J1v, J5, J2, J6, *, ↓reduceIte, reduceEqDiff, reduceAdd, reduceLT, reduceMul]
  rcases Jd h with ⟨h5, h⟩ | ⟨h5, h⟩
  ·have h5n : ((r2 : Int) != 255) = false := by rw [bne, h5]; rfl
   obtain rfl := sj h
   try simp only [↓Da, Ua, J1v, J5, J2, J6, *, ↓reduceIte, reduceEqDiff, reduceAdd, reduceLT, reduceMul]
   rfl
  ·have h5n : ((r2 : Int) != 255) = true := by rw [bne, h5]; rfl
   try simp only [↓Da, Ua, J1v, J5, J2, J6, *, ↓reduceIte, reduceEqDiff, reduceAdd, reduceLT, reduceMul]
   rcases Jd h with ⟨h6, h⟩ | ⟨h6, h⟩
   ·obtain rfl := sj h
    try simp only [↓Da, Ua, J1v, J5, J2, J6, JeI, *, ↓reduceIte, reduceEqDiff, reduceAdd, reduceLT, reduceMul]
    rfl
   ·obtain ⟨m7, h8, h⟩ := bi h
    have f9 : J4L (.p (.s x0)) (some (.p (.i .i64 (IntKind.wrap .i64 ((IntKind.wrap .i64 (12 + (IntKind.wrap .i64 (x13 * 13)))) + 1))))) (some (.p (.i .i64 (IntKind.wrap .i64 ((IntKind.wrap .i64 ((IntKind.wrap .i64 (12 + (IntKind.wrap .i64 (x13 * 13)))) + 1)) + r2))))) = some (.p (.s m7)) := J9d (k := .i64) (lo := (some (IntKind.wrap .i64 ((IntKind.wrap .i64 (12 + (IntKind.wrap .i64 (x13 * 13)))) + 1)))) (hi := (some (IntKind.wrap .i64 ((IntKind.wrap .i64 ((IntKind.wrap .i64 (12 + (IntKind.wrap .i64 (x13 * 13)))) + 1)) + r2)))) h8
    try simp only [Nf] at f9
    obtain ⟨u10, h11, h⟩ := bi h
    have f12 : (0 ≤ (x13 : Int) ∧ (x13 : Int) < ((16 : Nat) : Int)) = True := eq_true (J8f h11)
    obtain ⟨y13, h14, h⟩ := bi h
    have f15 : spl (J3 b1) (2 + Int.toNat x13 * 2) (Jb (⟨true, m7⟩ : J8)) = some (J3 (⟨b1.ID, b1.LSN, (J70 b1.Cells x13 (⟨true, m7⟩ : J8))⟩ : T_api_Page)) := by
     have e0 := (Jmh (J1i b1) (JjM (v := b1.Cells) JT (Jhs h14) (⟨true, m7⟩ : J8)) (J71 b1 _))
     exact e0
    try simp only [Nf] at f15
    obtain rfl := sj h
    try simp only [↓Da, Ua, J1v, J5, J2, J6, *, ↓reduceIte, reduceEqDiff, reduceAdd, reduceLT, reduceMul]
    rfl
 ·obtain ⟨o', h', rfl⟩ := mi h
  try simp only [↓Da, Ua, J1v, J5, J2, J6, *, ↓reduceIte, reduceEqDiff, reduceAdd, reduceLT, reduceMul]
  have e0 := JiT p h'
  exact e0
def J7M (x0 : List UInt8) (b0 : T_api_Page) (s : Int × T_api_Page) : Option (T_api_Page × Bool) :=
 Ju (fun s => J0f x0 b0 s.1 s.2) s
theorem Jgh {x0 : List UInt8} {b0 : T_api_Page} {s : Int × T_api_Page} {o : T_api_Page × Bool} (h : J7M x0 b0 s = some o) :
  rk (J1 p) J2C 0 [.bl 0, .sq (.keep [2, 4] J4d)] (X (J1 p) (.lp 2 [0, 2, 4, 13] J1v) ⟨[(0, .p (.s x0)), (2, .ptr 0 0), (4, .ptr 1 0), (13, .p (.i .i64 s.1))], [.box (List.map AV.p (J3 b0)), .box (List.map AV.p (J3 s.2))]⟩) = J6C o := by
 have h0 : Ju (fun s => J0f x0 b0 s.1 s.2) s = some o := h
 exact J0T (P := fun (s : Int × T_api_Page) (o : T_api_Page × Bool) => rk (J1 p) J2C 0 [.bl 0, .sq (.keep [2, 4] J4d)] (X (J1 p) (.lp 2 [0, 2, 4, 13] J1v) ⟨[(0, .p (.s x0)), (2, .ptr 0 0), (4, .ptr 1 0), (13, .p (.i .i64 s.1))], [.box (List.map AV.p (J3 b0)), .box (List.map AV.p (J3 s.2))]⟩) = J6C o) (fun s r hs => by rw [J19]; exact JcC p hs) (fun s s1 r hs ih => by rw [J19]; exact (JcC p hs).trans ih) h0
def J2D (x0 : List UInt8) : Option (T_api_Page × Bool) :=
 Option.bind (Jy x0 8 4) fun r1 =>
 Option.bind (Jy x0 0 8) fun r4 =>
 J7M x0 (⟨0, 0, (Vector.replicate 16 (⟨false, []⟩ : J8))⟩ : T_api_Page) (0, (⟨r1, r4, (Vector.replicate 16 (⟨false, []⟩ : J8))⟩ : T_api_Page))
theorem JgY {x0 : List UInt8} {o : T_api_Page × Bool} (h : J2D x0 = some o) :
  rk (J1 p) J2C 0 [] (X (J1 p) J7G ⟨[(0, .p (.s x0))], []⟩) = J6C o := by
 unfold J2D at h
 obtain ⟨r1, h2, h⟩ := bi h
 have f3 := J7L p h2
 try simp only [Nf] at f3
 obtain ⟨r4, h5, h⟩ := bi h
 have f6 := J7L p h5
 try simp only [Nf] at f6
 try simp only [↓Da, Ua, J7G, J5, J2, J6, *, ↓reduceIte, reduceEqDiff, reduceAdd, reduceLT, reduceMul]
 have e0 := Jgh p h
 exact e0
theorem Jlb {x0 : List UInt8} {o : T_api_Page × Bool} (h : J2D x0 = some o) : AF (J1 p) J6B [.p (.s x0)] [] = J6C o :=
 (J14 (J1 p) (JlL p) rfl).trans (JgY p h)
theorem Jl8 {x0 : List UInt8} {o : T_api_Page × Bool} (h : J2D x0 = some o) : ∀ ws new st, (Jq (AF (J1 p)) J6B ([.p (.s x0)], ws) 0 new).run st = some ⟨.tup [.data (J3 o.1), .p (.b o.2)], ws⟩ := JE rfl (Jlb p h) rfl
def J2m  (r : T_api_Page × T_pagemenddraw_Codes) : Option Res := some (.data (J3 r.1), [.box (List.map AV.p (J0 r.2))])
def JcX (b1 : T_api_Page) (o : (Int × T_pagemenddraw_Codes × T_api_Page) ⊕ (T_api_Page × T_pagemenddraw_Codes)) : Option Res := match o with
 | .inl s => rk (J1 p) J0v 1 [.bl 0, .sq (.keep [4, 5] J1X)] (X (J1 p) (.lp 3 [0, 4, 5, 6] J1u) ⟨[(0, .ptr 0 0), (4, .ptr 1 0), (5, .ptr 2 0), (6, .p (.i .i64 s.1))], [.box (List.map AV.p (J0 s.2.1)), .box (List.map AV.p (J3 b1)), .box (List.map AV.p (J3 s.2.2))]⟩)
 | .inr o => J2m o
def J2z (b0 : T_pagemenddraw_Codes) (b1 b2 : T_api_Page) : Option (T_api_Page × T_pagemenddraw_Codes) :=
 some (b2, b0)
theorem J8T {b0 : T_pagemenddraw_Codes} {b1 b2 : T_api_Page} {o : T_api_Page × T_pagemenddraw_Codes} (h : J2z b0 b1 b2 = some o) :
  rk (J1 p) J0v 1 [] (X (J1 p) J1X ⟨[(4, .ptr 1 0), (5, .ptr 2 0)], [.box (List.map AV.p (J0 b0)), .box (List.map AV.p (J3 b1)), .box (List.map AV.p (J3 b2))]⟩) = J2m o := by
 unfold J2z at h
 obtain rfl := sj h
 try simp only [↓Da, Ua, J1X, J5, J2, J6, JeA, ↓reduceIte, reduceEqDiff, reduceAdd, reduceLT, reduceMul]
 rfl
def J20 (b1 : T_api_Page) (x6 : Int) (b0 : T_pagemenddraw_Codes) (b2 : T_api_Page) : Option (((Int × T_pagemenddraw_Codes × T_api_Page) ⊕ (T_api_Page × T_pagemenddraw_Codes))) :=
 if (decide (x6 > 0)) then
  Option.bind (J06 b0 16) fun r2 =>
  Option.bind (J3t r2.2) fun r5 =>
  Option.bind (inb 16 r2.1) fun u8 =>
  Option.bind (J6Q b2.Cells r2.1) fun y11 =>
  some (.inl ((IntKind.wrap .i64 (x6 - 1)), r5.2, (⟨b2.ID, b2.LSN, (J70 b2.Cells r2.1 r5.1)⟩ : T_api_Page)))
 else
  Option.map (fun o => .inr o) (J2z b0 b1 b2)
theorem J8P {b1 : T_api_Page} {x6 : Int} {b0 : T_pagemenddraw_Codes} {b2 : T_api_Page} {o : ((Int × T_pagemenddraw_Codes × T_api_Page) ⊕ (T_api_Page × T_pagemenddraw_Codes))} (h : J20 b1 x6 b0 b2 = some o) :
  rk (J1 p) J0v 1 [.lo 3 [0, 4, 5, 6] J1u, .bl 0, .sq (.keep [4, 5] J1X)] (X (J1 p) J1u ⟨[(0, .ptr 0 0), (4, .ptr 1 0), (5, .ptr 2 0), (6, .p (.i .i64 x6))], [.box (List.map AV.p (J0 b0)), .box (List.map AV.p (J3 b1)), .box (List.map AV.p (J3 b2))]⟩) = (JcX p b1) o := by
 unfold J20 at h
 rcases Jd h with ⟨h1, h⟩ | ⟨h1, h⟩
 ·obtain ⟨r2, h3, h⟩ := bi h
  have f4 : ∀ ws new s, J1o ws s [0] [List.map AV.p (J0 b0)] → (Jq (AF (J1 p)) Jm ([.ptr 0 0, .p (.i .i64 16)], ws) 0 new).run s = some ⟨.p (.i .i64 r2.1), ws ++ [(0, .box (List.map AV.p (J0 r2.2)))]⟩ := J0K (args' := [.ptr 0 0, .p (.i .i64 16)]) (bs := [0]) (css := [List.map AV.p (J0 b0)]) (css' := [List.map AV.p (J0 r2.2)]) rfl rfl rfl (by simp [JN, Jr]) (J0u p h3) rfl rfl (by simp [JN, Jr])
  try simp only [Nf] at f4
  obtain ⟨r5, h6, h⟩ := bi h
  have f7 : ∀ ws new s, J1o ws s [0] [List.map AV.p (J0 r2.2)] → (Jq (AF (J1 p)) J3r ([.ptr 0 0], ws) 0 new).run s = some ⟨.data (Jb r5.1), ws ++ [(0, .box (List.map AV.p (J0 r5.2)))]⟩ := J0K (args' := [.ptr 0 0]) (bs := [0]) (css := [List.map AV.p (J0 r2.2)]) (css' := [List.map AV.p (J0 r5.2)]) rfl rfl rfl (by simp [JN, Jr]) (Jep p h6) rfl rfl (by simp [JN, Jr])
  try simp only [Nf] at f7
  obtain ⟨u8, h9, h⟩ := bi h
  have f10 : (0 ≤ (r2.1 : Int) ∧ (r2.1 : Int) < ((16 : Nat) : Int)) = True := eq_true (J8f h9)
  obtain ⟨y11, h12, h⟩ := bi h
  have f13 : spl (J3 b2) (2 + Int.toNat r2.1 * 2) (Jb r5.1) = some (J3 (⟨b2.ID, b2.LSN, (J70 b2.Cells r2.1 r5.1)⟩ : T_api_Page)) := by
   have e0 := (Jmh (J1i b2) (JjM (v := b2.Cells) JT (Jhs h12) r5.1) (J71 b2 _))
   exact e0
  try simp only [Nf] at f13
  obtain rfl := sj h
  try simp only [↓Da, Ua, J1u, J5, Jh, *, ↓reduceIte, reduceEqDiff, reduceAdd, reduceLT, reduceMul]
  rfl
 ·obtain ⟨o', h', rfl⟩ := mi h
  try simp only [↓Da, Ua, J1u, J5, Jh, *, ↓reduceIte, reduceEqDiff, reduceAdd, reduceLT, reduceMul]
  have e0 := J8T p h'
  exact e0
def J8S (b1 : T_api_Page) (s : Int × T_pagemenddraw_Codes × T_api_Page) : Option (T_api_Page × T_pagemenddraw_Codes) :=
 Ju (fun s => J20 b1 s.1 s.2.1 s.2.2) s
theorem Jbv {b1 : T_api_Page} {s : Int × T_pagemenddraw_Codes × T_api_Page} {o : T_api_Page × T_pagemenddraw_Codes} (h : J8S b1 s = some o) :
  rk (J1 p) J0v 1 [.bl 0, .sq (.keep [4, 5] J1X)] (X (J1 p) (.lp 3 [0, 4, 5, 6] J1u) ⟨[(0, .ptr 0 0), (4, .ptr 1 0), (5, .ptr 2 0), (6, .p (.i .i64 s.1))], [.box (List.map AV.p (J0 s.2.1)), .box (List.map AV.p (J3 b1)), .box (List.map AV.p (J3 s.2.2))]⟩) = J2m o := by
 have h0 : Ju (fun s => J20 b1 s.1 s.2.1 s.2.2) s = some o := h
 exact J0T (P := fun (s : Int × T_pagemenddraw_Codes × T_api_Page) (o : T_api_Page × T_pagemenddraw_Codes) => rk (J1 p) J0v 1 [.bl 0, .sq (.keep [4, 5] J1X)] (X (J1 p) (.lp 3 [0, 4, 5, 6] J1u) ⟨[(0, .ptr 0 0), (4, .ptr 1 0), (5, .ptr 2 0), (6, .p (.i .i64 s.1))], [.box (List.map AV.p (J0 s.2.1)), .box (List.map AV.p (J3 b1)), .box (List.map AV.p (J3 s.2.2))]⟩) = J2m o) (fun s r hs => by rw [J19]; exact J8P p hs) (fun s s1 r hs ih => by rw [J19]; exact (J8P p hs).trans ih) h0
def J2A (b0 : T_pagemenddraw_Codes) (b1 b2 : T_api_Page) : Option (T_api_Page × T_pagemenddraw_Codes) :=
 if (decide (b2.LSN > 0)) then
  Option.bind (J06 b0 6) fun r2 =>
  J8S b1 (r2.1, r2.2, b2)
 else
  J2z b0 b1 b2
theorem J8M {b0 : T_pagemenddraw_Codes} {b1 b2 : T_api_Page} {o : T_api_Page × T_pagemenddraw_Codes} (h : J2A b0 b1 b2 = some o) :
  rk (J1 p) J0v 1 [] (X (J1 p) J4O ⟨[(0, .ptr 0 0), (4, .ptr 1 0), (5, .ptr 2 0)], [.box (List.map AV.p (J0 b0)), .box (List.map AV.p (J3 b1)), .box (List.map AV.p (J3 b2))]⟩) = J2m o := by
 unfold J2A at h
 rcases Jd h with ⟨h1, h⟩ | ⟨h1, h⟩
 ·obtain ⟨r2, h3, h⟩ := bi h
  have f4 : ∀ ws new s, J1o ws s [0] [List.map AV.p (J0 b0)] → (Jq (AF (J1 p)) Jm ([.ptr 0 0, .p (.i .i64 6)], ws) 0 new).run s = some ⟨.p (.i .i64 r2.1), ws ++ [(0, .box (List.map AV.p (J0 r2.2)))]⟩ := J0K (args' := [.ptr 0 0, .p (.i .i64 6)]) (bs := [0]) (css := [List.map AV.p (J0 b0)]) (css' := [List.map AV.p (J0 r2.2)]) rfl rfl rfl (by simp [JN, Jr]) (J0u p h3) rfl rfl (by simp [JN, Jr])
  try simp only [Nf] at f4
  try simp only [↓Da, Ua, J4O, J5, J2, J6, Jh, *, ↓reduceIte, reduceEqDiff, reduceAdd, reduceLT, reduceMul]
  have e0 := Jbv p h
  exact e0
 ·try simp only [↓Da, Ua, J4O, J5, J2, J6, Jh, *, ↓reduceIte, reduceEqDiff, reduceAdd, reduceLT, reduceMul]
  have e0 := J8T p h
  exact e0
def J2o (b0 : T_pagemenddraw_Codes) (x1 : Int) : Option (T_api_Page × T_pagemenddraw_Codes) :=
 Option.bind (J06 b0 50) fun r1 =>
 Option.bind (J06 r1.2 10) fun r4 =>
 if ((r4.1 : Int) == 9) then
  Option.bind (J06 r4.2 2) fun r8 =>
  J2A r8.2 (⟨0, 0, (Vector.replicate 16 (⟨false, []⟩ : J8))⟩ : T_api_Page) (⟨x1, (IntKind.wrap .i64 (1099511627776 - r8.1)), (Vector.replicate 16 (⟨false, []⟩ : J8))⟩ : T_api_Page)
 else
  J2A r4.2 (⟨0, 0, (Vector.replicate 16 (⟨false, []⟩ : J8))⟩ : T_api_Page) (⟨x1, r1.1, (Vector.replicate 16 (⟨false, []⟩ : J8))⟩ : T_api_Page)
theorem Jbo {b0 : T_pagemenddraw_Codes} {x1 : Int} {o : T_api_Page × T_pagemenddraw_Codes} (h : J2o b0 x1 = some o) :
  rk (J1 p) J0v 1 [] (X (J1 p) J2i ⟨[(0, .ptr 0 0), (1, .p (.i .i64 x1))], [.box (List.map AV.p (J0 b0))]⟩) = J2m o := by
 unfold J2o at h
 obtain ⟨r1, h2, h⟩ := bi h
 have f3 : ∀ ws new s, J1o ws s [0] [List.map AV.p (J0 b0)] → (Jq (AF (J1 p)) Jm ([.ptr 0 0, .p (.i .i64 50)], ws) 0 new).run s = some ⟨.p (.i .i64 r1.1), ws ++ [(0, .box (List.map AV.p (J0 r1.2)))]⟩ := J0K (args' := [.ptr 0 0, .p (.i .i64 50)]) (bs := [0]) (css := [List.map AV.p (J0 b0)]) (css' := [List.map AV.p (J0 r1.2)]) rfl rfl rfl (by simp [JN, Jr]) (J0u p h2) rfl rfl (by simp [JN, Jr])
 try simp only [Nf] at f3
 obtain ⟨r4, h5, h⟩ := bi h
 have f6 : ∀ ws new s, J1o ws s [0] [List.map AV.p (J0 r1.2)] → (Jq (AF (J1 p)) Jm ([.ptr 0 0, .p (.i .i64 10)], ws) 0 new).run s = some ⟨.p (.i .i64 r4.1), ws ++ [(0, .box (List.map AV.p (J0 r4.2)))]⟩ := J0K (args' := [.ptr 0 0, .p (.i .i64 10)]) (bs := [0]) (css := [List.map AV.p (J0 r1.2)]) (css' := [List.map AV.p (J0 r4.2)]) rfl rfl rfl (by simp [JN, Jr]) (J0u p h5) rfl rfl (by simp [JN, Jr])
 try simp only [Nf] at f6
 try simp only [↓Da, Ua, J2i, J5, J2, J6, Jh, *, ↓reduceIte, reduceEqDiff, reduceAdd, reduceLT, reduceMul]
 rcases Jd h with ⟨h7, h⟩ | ⟨h7, h⟩
 ·have h7n : ((r4.1 : Int) != 9) = false := by rw [bne, h7]; rfl
  obtain ⟨r8, h9, h⟩ := bi h
  have f10 : ∀ ws new s, J1o ws s [0] [List.map AV.p (J0 r4.2)] → (Jq (AF (J1 p)) Jm ([.ptr 0 0, .p (.i .i64 2)], ws) 0 new).run s = some ⟨.p (.i .i64 r8.1), ws ++ [(0, .box (List.map AV.p (J0 r8.2)))]⟩ := J0K (args' := [.ptr 0 0, .p (.i .i64 2)]) (bs := [0]) (css := [List.map AV.p (J0 r4.2)]) (css' := [List.map AV.p (J0 r8.2)]) rfl rfl rfl (by simp [JN, Jr]) (J0u p h9) rfl rfl (by simp [JN, Jr])
  try simp only [Nf] at f10
  try simp only [↓Da, Ua, J2i, J5, J2, J6, Jh, *, ↓reduceIte, reduceEqDiff, reduceAdd, reduceLT, reduceMul]
  have e0 := J8M p h
  exact e0
 ·have h7n : ((r4.1 : Int) != 9) = true := by rw [bne, h7]; rfl
  try simp only [↓Da, Ua, J2i, J5, J2, J6, Jh, *, ↓reduceIte, reduceEqDiff, reduceAdd, reduceLT, reduceMul]
  have e0 := J8M p h
  exact e0
theorem Jem {b0 : T_pagemenddraw_Codes} {x1 : Int} {o : T_api_Page × T_pagemenddraw_Codes} (h : J2o b0 x1 = some o) : AF (J1 p) J3n [.ptr 0 0, .p (.i .i64 x1)] [.box (List.map AV.p (J0 b0))] = J2m o :=
 (J14 (J1 p) (Jek p) rfl).trans (Jbo p h)
def J9l  : Option ((List UInt8)) :=
 Option.bind (J1R 256) fun r1 =>
 some r1
def Jdq  (r : (List UInt8)) : Option Res := some (.p (.s r), [])
def J4K  : Option ((List UInt8)) :=
 Option.bind (J2V ([0]) 256) fun r1 =>
 some r1
theorem Jfi  {o : (List UInt8)} (h : J4K = some o) :
  rk (J1 p) J5U 0 [] (X (J1 p) J78 ⟨[], []⟩) = Jdq o := by
 unfold J4K at h
 obtain ⟨r1, h2, h⟩ := bi h
 have f3 := J85 p h2
 try simp only [Nf] at f3
 obtain rfl := sj h
 try simp only [↓Da, Ua, J78, Jk5, *, ↓reduceIte, reduceEqDiff, reduceAdd, reduceLT, reduceMul]
 rfl
theorem JkN  {o : (List UInt8)} (h : J4K = some o) : AF (J1 p) J68 [] [] = Jdq o :=
 (J14 (J1 p) (JkQ p) rfl).trans (Jfi p h)
theorem JjP  {o : (List UInt8)} (h : J4K = some o) : ∀ ws new st, (Jq (AF (J1 p)) J68 ([], ws) 0 new).run st = some ⟨.p (.s o), ws⟩ := JE rfl (JkN p h) rfl
def Jcl  (r : Bool) : Option Res := some (.p (.b r), [])
def J1f (x0 : T_api_Page) : Option (Bool) :=
 Option.bind (J0O x0.ID) fun r1 =>
 if r1 then
  if (decide (x0.LSN ≥ 0)) then
   some (decide (x0.LSN ≤ 1099511627776))
  else
   some false
 else
  some false
theorem Jeh {x0 : T_api_Page} {o : Bool} (h : J1f x0 = some o) :
  rk (J1 p) J5k 0 [] (X (J1 p) J2Q ⟨[(0, .data (J3 x0))], []⟩) = Jcl o := by
 unfold J1f at h
 obtain ⟨r1, h2, h⟩ := bi h
 have f3 := Jdg p h2
 try simp only [Nf] at f3
 try simp only [↓Da, Ua, J2Q, J5, J2, J6, *, ↓reduceIte, reduceEqDiff, reduceAdd, reduceLT, reduceMul]
 rcases Jd h with ⟨h4, h⟩ | ⟨h4, h⟩
 ·try simp only [↓Da, Ua, J2Q, J5, J2, J6, *, ↓reduceIte, reduceEqDiff, reduceAdd, reduceLT, reduceMul]
  rcases Jd h with ⟨h5, h⟩ | ⟨h5, h⟩
  ·obtain rfl := sj h
   try simp only [↓Da, Ua, J2Q, J5, J2, J6, J9p, *, ↓reduceIte, reduceEqDiff, reduceAdd, reduceLT, reduceMul]
   rfl
  ·obtain rfl := sj h
   try simp only [↓Da, Ua, J2Q, J5, J2, J6, J9p, *, ↓reduceIte, reduceEqDiff, reduceAdd, reduceLT, reduceMul]
   rfl
 ·obtain rfl := sj h
  try simp only [↓Da, Ua, J2Q, J5, J2, J6, J9p, *, ↓reduceIte, reduceEqDiff, reduceAdd, reduceLT, reduceMul]
  rfl
theorem JiR {x0 : T_api_Page} {o : Bool} (h : J1f x0 = some o) : AF (J1 p) J56 [.data (J3 x0)] [] = Jcl o :=
 (J14 (J1 p) (JiY p) rfl).trans (Jeh p h)
theorem Jjh {x0 : T_api_Page} {o : Bool} (h : J1f x0 = some o) : ∀ ws new st, (Jq (AF (J1 p)) J56 ([.data (J3 x0)], ws) 0 new).run st = some ⟨.p (.b o), ws⟩ := JE rfl (JiR p h) rfl
def J6L  (r : T_page_builder) : Option Res := some (.tup [], [.box (List.map AV.p (J0t r))])
def J15 (x4 : Int) (b0 : T_page_builder) (b1 : J8) : Option (T_page_builder) :=
 Option.bind (J0i b0.s_ x4 1) fun r1 =>
 Option.bind (J3e r1 b1.Data) fun s5 =>
 Option.bind (J2V ([0]) (IntKind.wrap .i64 (12 - ((List.length b1.Data : Nat) : Int)))) fun r7 =>
 Option.bind (J3e s5 r7) fun s11 =>
 some (⟨s11⟩ : T_page_builder)
theorem J8e {x4 : Int} {b0 : T_page_builder} {b1 : J8} {o : T_page_builder} (h : J15 x4 b0 b1 = some o) :
  rk (J1 p) J1W 1 [] (X (J1 p) J5W ⟨[(0, .ptr 0 0), (3, .ptr 1 0), (4, .p (.i .i64 x4))], [.box (List.map AV.p (J0t b0)), .box (List.map AV.p (Jb b1))]⟩) = J6L o := by
 unfold J15 at h
 obtain ⟨r1, h2, h⟩ := bi h
 have f3 := J5D p h2
 try simp only [Nf, Jw] at f3
 have f4 : ∀ ws k new s, Ja ((Jq (AF (J1 p)) J17 ([.p (.s b0.s_), .p (.i .i64 x4), .p (.i .i64 1)], ws) k new).reads s) = [] := J0V rfl
 try simp only [Nf, Jw] at f4
 obtain ⟨s5, h6, h⟩ := bi h
 obtain ⟨r7, h8, h⟩ := bi h
 have f9 := J85 p h8
 try simp only [Nf, Jw] at f9
 have f10 : ∀ ws k new s, Ja ((Jq (AF (J1 p)) J1L ([.p (.s [0]), .p (.i .i64 (IntKind.wrap .i64 (12 - ((List.length b1.Data : Nat) : Int))))], ws) k new).reads s) = [] := J0V rfl
 try simp only [Nf, Jw] at f10
 obtain ⟨s11, h12, h⟩ := bi h
 obtain rfl := sj h
 try simp only [↓Da, Ua, Ra, J5W, J5, Jw, Jd4, *, ↓reduceIte, reduceEqDiff, reduceAdd, reduceLT, reduceMul, Nat.reduceBEq]
 rfl
def J1s (b0 : T_page_builder) (x1 : J8) : Option (T_page_builder) :=
 if x1.Set then
  J15 ((List.length x1.Data : Nat) : Int) b0 x1
 else
  J15 255 b0 x1
theorem Jaz {b0 : T_page_builder} {x1 : J8} {o : T_page_builder} (h : J1s b0 x1 = some o) :
  rk (J1 p) J1W 1 [] (X (J1 p) J2x ⟨[(0, .ptr 0 0), (1, .data (Jb x1))], [.box (List.map AV.p (J0t b0))]⟩) = J6L o := by
 unfold J1s at h
 rcases Jd h with ⟨h1, h⟩ | ⟨h1, h⟩
 ·try simp only [↓Da, Ua, J2x, J5, Jw, *, ↓reduceIte, reduceEqDiff, reduceAdd, reduceLT, reduceMul]
  have e0 := J8e p h
  first | exact e0 | (simp only [*] at e0; exact e0)
 ·try simp only [↓Da, Ua, J2x, J5, Jw, *, ↓reduceIte, reduceEqDiff, reduceAdd, reduceLT, reduceMul]
  have e0 := J8e p h
  first | exact e0 | (simp only [*] at e0; exact e0)
theorem Jd1 {b0 : T_page_builder} {x1 : J8} {o : T_page_builder} (h : J1s b0 x1 = some o) : AF (J1 p) J0J [.ptr 0 0, .data (Jb x1)] [.box (List.map AV.p (J0t b0))] = J6L o :=
 (J14 (J1 p) (Jd0 p) rfl).trans (Jaz p h)
def J6J  (r : Int) : Option Res := some (.p (.i .u32 r), [])
def JiP (x0 : List UInt8) (x8 : Int) (b0 : Vector Int 16) (o : (Int × Int) ⊕ (Int)) : Option Res := match o with
 | .inl s => rk (J1 p) J2H 0 [.bl 0, .sq (.keep [4] J4o)] (X (J1 p) (.lp 1 [0, 3, 4, 8, 9] J3A) ⟨[(0, .p (.s x0)), (3, .ptr 0 0), (4, .p (.i .u32 s.1)), (8, .p (.i .i64 x8)), (9, .p (.i .i64 s.2))], [.box (List.map AV.p ((JW (r_i .u32)) b0))]⟩)
 | .inr o => J6J o
def J58 (x4 : Int) : Option (Int) :=
 some (JhI .u32 x4)
theorem Jjm {x4 : Int} {B0 : List PV} {o : Int} (h : J58 x4 = some o) :
  rk (J1 p) J2H 0 [] (X (J1 p) J4o ⟨[(4, .p (.i .u32 x4))], [.box (List.map AV.p B0)]⟩) = J6J o := by
 unfold J58 at h
 obtain rfl := sj h
 try simp only [↓Da, Ua, J4o, Jlx, ↓reduceIte, reduceEqDiff, reduceAdd, reduceLT, reduceMul]
 rfl
def J1x (x0 : List UInt8) (x8 : Int) (b0 : Vector Int 16) (x4 x9 : Int) : Option (((Int × Int) ⊕ (Int))) :=
 if (decide (x9 < x8)) then
  Option.bind (Jb0 x0 x9) fun c2 =>
  Option.bind (J6P .u32 (J4U .u32 x4 (IntKind.wrap .u32 c2)) 4) fun q4 =>
  Option.bind (inb 16 (J3P .u32 (J4U .u32 x4 (IntKind.wrap .u32 c2)) 15)) fun u6 =>
  Option.bind (J6Q b0 (J3P .u32 (J4U .u32 x4 (IntKind.wrap .u32 c2)) 15)) fun y9 =>
  Option.bind (J6P .u32 (J4U .u32 q4 y9) 4) fun q12 =>
  Option.bind (inb 16 (J3P .u32 (J4U .u32 q4 y9) 15)) fun u14 =>
  Option.bind (J6Q b0 (J3P .u32 (J4U .u32 q4 y9) 15)) fun y17 =>
  some (.inl ((J4U .u32 q12 y17), (IntKind.wrap .i64 (x9 + 1))))
 else
  Option.map (fun o => .inr o) (J58 x4)
theorem Jcw {x0 : List UInt8} {x8 : Int} {b0 : Vector Int 16} {x4 x9 : Int} {o : ((Int × Int) ⊕ (Int))} (h : J1x x0 x8 b0 x4 x9 = some o) :
  rk (J1 p) J2H 0 [.lo 1 [0, 3, 4, 8, 9] J3A, .bl 0, .sq (.keep [4] J4o)] (X (J1 p) J3A ⟨[(0, .p (.s x0)), (3, .ptr 0 0), (4, .p (.i .u32 x4)), (8, .p (.i .i64 x8)), (9, .p (.i .i64 x9))], [.box (List.map AV.p ((JW (r_i .u32)) b0))]⟩) = (JiP p x0 x8 b0) o := by
 unfold J1x at h
 rcases Jd h with ⟨h1, h⟩ | ⟨h1, h⟩
 ·obtain ⟨c2, h3, h⟩ := bi h
  obtain ⟨q4, h5, h⟩ := bi h
  obtain ⟨u6, h7, h⟩ := bi h
  have f8 : (0 ≤ ((J3P .u32 (J4U .u32 x4 (IntKind.wrap .u32 c2)) 15) : Int) ∧ ((J3P .u32 (J4U .u32 x4 (IntKind.wrap .u32 c2)) 15) : Int) < ((16 : Nat) : Int)) = True := eq_true (J8f h7)
  obtain ⟨y9, h10, h⟩ := bi h
  have f11 : sub ((JW (r_i .u32)) b0) (Int.toNat (J3P .u32 (J4U .u32 x4 (IntKind.wrap .u32 c2)) 15) * 1) 1 = some ((r_i .u32) y9) := by
   have e0 := (J7C (v := b0) (J8X .u32) (J3J h10).2)
   exact e0
  try simp only [Nf] at f11
  obtain ⟨q12, h13, h⟩ := bi h
  obtain ⟨u14, h15, h⟩ := bi h
  have f16 : (0 ≤ ((J3P .u32 (J4U .u32 q4 y9) 15) : Int) ∧ ((J3P .u32 (J4U .u32 q4 y9) 15) : Int) < ((16 : Nat) : Int)) = True := eq_true (J8f h15)
  obtain ⟨y17, h18, h⟩ := bi h
  have f19 : sub ((JW (r_i .u32)) b0) (Int.toNat (J3P .u32 (J4U .u32 q4 y9) 15) * 1) 1 = some ((r_i .u32) y17) := by
   have e0 := (J7C (v := b0) (J8X .u32) (J3J h18).2)
   exact e0
  try simp only [Nf] at f19
  obtain rfl := sj h
  try simp only [↓Da, Ua, J3A, J5v, *, ↓reduceIte, reduceEqDiff, reduceAdd, reduceLT, reduceMul]
  rfl
 ·obtain ⟨o', h', rfl⟩ := mi h
  try simp only [↓Da, Ua, J3A, J5v, *, ↓reduceIte, reduceEqDiff, reduceAdd, reduceLT, reduceMul]
  have e0 := Jjm p (B0 := ((JW (r_i .u32)) b0)) h'
  exact e0
def JcM (x0 : List UInt8) (x8 : Int) (b0 : Vector Int 16) (s : Int × Int) : Option (Int) :=
 Ju (fun s => J1x x0 x8 b0 s.1 s.2) s
theorem Jgt {x0 : List UInt8} {x8 : Int} {b0 : Vector Int 16} {s : Int × Int} {o : Int} (h : JcM x0 x8 b0 s = some o) :
  rk (J1 p) J2H 0 [.bl 0, .sq (.keep [4] J4o)] (X (J1 p) (.lp 1 [0, 3, 4, 8, 9] J3A) ⟨[(0, .p (.s x0)), (3, .ptr 0 0), (4, .p (.i .u32 s.1)), (8, .p (.i .i64 x8)), (9, .p (.i .i64 s.2))], [.box (List.map AV.p ((JW (r_i .u32)) b0))]⟩) = J6J o := by
 have h0 : Ju (fun s => J1x x0 x8 b0 s.1 s.2) s = some o := h
 exact J0T (P := fun (s : Int × Int) (o : Int) => rk (J1 p) J2H 0 [.bl 0, .sq (.keep [4] J4o)] (X (J1 p) (.lp 1 [0, 3, 4, 8, 9] J3A) ⟨[(0, .p (.s x0)), (3, .ptr 0 0), (4, .p (.i .u32 s.1)), (8, .p (.i .i64 x8)), (9, .p (.i .i64 s.2))], [.box (List.map AV.p ((JW (r_i .u32)) b0))]⟩) = J6J o) (fun s r hs => by rw [J19]; exact Jcw p hs) (fun s s1 r hs ih => by rw [J19]; exact (Jcw p hs).trans ih) h0
def J1m (x0 : List UInt8) : Option (Int) :=
 Option.bind (J2a) fun r1 =>
 JcM x0 ((List.length x0 : Nat) : Int) r1 (4294967295, 0)
theorem JgM {x0 : List UInt8} {o : Int} (h : J1m x0 = some o) :
  rk (J1 p) J2H 0 [] (X (J1 p) J7A ⟨[(0, .p (.s x0))], []⟩) = J6J o := by
 unfold J1m at h
 obtain ⟨r1, h2, h⟩ := bi h
 have f3 := JdG p h2
 try simp only [Nf] at f3
 try simp only [↓Da, Ua, J7A, J5v, *, ↓reduceIte, reduceEqDiff, reduceAdd, reduceLT, reduceMul]
 have e0 := Jgt p h
 exact e0
theorem JlI {x0 : List UInt8} {o : Int} (h : J1m x0 = some o) : AF (J1 p) J3U [.p (.s x0)] [] = J6J o :=
 (J14 (J1 p) (Jlz p) rfl).trans (JgM p h)
theorem Jba {x0 : List UInt8} {o : Int} (h : J1m x0 = some o) : ∀ ws new st, (Jq (AF (J1 p)) J3U ([.p (.s x0)], ws) 0 new).run st = some ⟨.p (.i .u32 o), ws⟩ := JE rfl (JlI p h) rfl
def Jz  (r : Int × Bool) : Option Res := some (.tup [.p (.i .i64 r.1), .p (.b r.2)], [])
def J2K (x0 : List T_api_Copy) (x1 x8 : Int) (o : (Int × Int) ⊕ (Int × Bool)) : Option Res := match o with
 | .inl s => rk (J1 p) Jl 0 [.bl 0, .sq (.keep [0, 1, 2, 8, 9] JA)] (X (J1 p) (.lp 0 [0, 1, 2, 8, 9, 10] Jp) ⟨[(0, .p (.sl 3 (List.map J7 x0))), (1, .p (.i .i64 x1)), (2, .fn J0b [] []), (8, .p (.i .i64 x8)), (9, .p (.i .i64 s.1)), (10, .p (.i .i64 s.2))], []⟩)
 | .inr o => Jz o
def JR (x0 : List T_api_Copy) (x1 x8 x9 : Int) : Option (Int × Bool) :=
 if (decide (x9 < x8)) then
  Option.bind (idx x0 x9) fun y2 =>
  Option.bind (J27 y2 x1) fun r5 =>
  some (x9, ((r5 : Int) == 0))
 else
  some (x9, false)
theorem J2N {x0 : List T_api_Copy} {x1 x8 x9 : Int} {o : Int × Bool} (h : JR x0 x1 x8 x9 = some o) :
  rk (J1 p) Jl 0 [] (X (J1 p) JA ⟨[(0, .p (.sl 3 (List.map J7 x0))), (1, .p (.i .i64 x1)), (2, .fn J0b [] []), (8, .p (.i .i64 x8)), (9, .p (.i .i64 x9))], []⟩) = Jz o := by
 unfold JR at h
 rcases Jd h with ⟨h1, h⟩ | ⟨h1, h⟩
 ·obtain ⟨y2, h3, h⟩ := bi h
  have f4 := J8b (r := J7) h3
  try simp only [Nf] at f4
  obtain ⟨r5, h6, h⟩ := bi h
  have f7 := Jal p h6
  try simp only [Nf] at f7
  obtain rfl := sj h
  try simp only [↓Da, Ua, JA, Je, J2c, *, ↓reduceIte, reduceEqDiff, reduceAdd, reduceLT, reduceMul]
  rfl
 ·obtain rfl := sj h
  try simp only [↓Da, Ua, JA, Je, J2c, *, ↓reduceIte, reduceEqDiff, reduceAdd, reduceLT, reduceMul]
  rfl
def JD (x0 : List T_api_Copy) (x1 x8 : Int) (x9 x10 : Int) : Option (((Int × Int) ⊕ (Int × Bool))) :=
 if (decide (x9 < x10)) then
  Option.bind (J6P .u64 (IntKind.wrap .u64 (IntKind.wrap .i64 (x9 + x10))) 1) fun q2 =>
  Option.bind (idx x0 (IntKind.wrap .i64 q2)) fun y4 =>
  Option.bind (J27 y4 x1) fun r7 =>
  if (decide (r7 < 0)) then
   some (.inl ((IntKind.wrap .i64 ((IntKind.wrap .i64 q2) + 1)), x10))
  else
   some (.inl (x9, (IntKind.wrap .i64 q2)))
 else
  Option.map (fun o => .inr o) (JR x0 x1 x8 x9)
theorem J10 {x0 : List T_api_Copy} {x1 x8 : Int} {x9 x10 : Int} {o : ((Int × Int) ⊕ (Int × Bool))} (h : JD x0 x1 x8 x9 x10 = some o) :
  rk (J1 p) Jl 0 [.lo 0 [0, 1, 2, 8, 9, 10] Jp, .bl 0, .sq (.keep [0, 1, 2, 8, 9] JA)] (X (J1 p) Jp ⟨[(0, .p (.sl 3 (List.map J7 x0))), (1, .p (.i .i64 x1)), (2, .fn J0b [] []), (8, .p (.i .i64 x8)), (9, .p (.i .i64 x9)), (10, .p (.i .i64 x10))], []⟩) = (J2K p x0 x1 x8) o := by
 unfold JD at h
 rcases Jd h with ⟨h1, h⟩ | ⟨h1, h⟩
 ·obtain ⟨q2, h3, h⟩ := bi h
  obtain ⟨y4, h5, h⟩ := bi h
  have f6 := J8b (r := J7) h5
  try simp only [Nf] at f6
  obtain ⟨r7, h8, h⟩ := bi h
  have f9 := Jal p h8
  try simp only [Nf] at f9
  try simp only [↓Da, Ua, Jp, Je, *, ↓reduceIte, reduceEqDiff, reduceAdd, reduceLT, reduceMul]
  rcases Jd h with ⟨h10, h⟩ | ⟨h10, h⟩
  ·obtain rfl := sj h
   try simp only [↓Da, Ua, Jp, Je, *, ↓reduceIte, reduceEqDiff, reduceAdd, reduceLT, reduceMul]
   rfl
  ·obtain rfl := sj h
   try simp only [↓Da, Ua, Jp, Je, *, ↓reduceIte, reduceEqDiff, reduceAdd, reduceLT, reduceMul]
   rfl
 ·obtain ⟨o', h', rfl⟩ := mi h
  try simp only [↓Da, Ua, Jp, Je, *, ↓reduceIte, reduceEqDiff, reduceAdd, reduceLT, reduceMul]
  have e0 := J2N p h'
  exact e0
def JQ (x0 : List T_api_Copy) (x1 x8 : Int) (s : Int × Int) : Option (Int × Bool) :=
 Ju (fun s => JD x0 x1 x8 s.1 s.2) s
theorem J2t {x0 : List T_api_Copy} {x1 x8 : Int} {s : Int × Int} {o : Int × Bool} (h : JQ x0 x1 x8 s = some o) :
  rk (J1 p) Jl 0 [.bl 0, .sq (.keep [0, 1, 2, 8, 9] JA)] (X (J1 p) (.lp 0 [0, 1, 2, 8, 9, 10] Jp) ⟨[(0, .p (.sl 3 (List.map J7 x0))), (1, .p (.i .i64 x1)), (2, .fn J0b [] []), (8, .p (.i .i64 x8)), (9, .p (.i .i64 s.1)), (10, .p (.i .i64 s.2))], []⟩) = Jz o := by
 have h0 : Ju (fun s => JD x0 x1 x8 s.1 s.2) s = some o := h
 exact J0T (P := fun (s : Int × Int) (o : Int × Bool) => rk (J1 p) Jl 0 [.bl 0, .sq (.keep [0, 1, 2, 8, 9] JA)] (X (J1 p) (.lp 0 [0, 1, 2, 8, 9, 10] Jp) ⟨[(0, .p (.sl 3 (List.map J7 x0))), (1, .p (.i .i64 x1)), (2, .fn J0b [] []), (8, .p (.i .i64 x8)), (9, .p (.i .i64 s.1)), (10, .p (.i .i64 s.2))], []⟩) = Jz o) (fun s r hs => by rw [J19]; exact J10 p hs) (fun s s1 r hs ih => by rw [J19]; exact (J10 p hs).trans ih) h0
def JH (x0 : List T_api_Copy) (x1 : Int) : Option (Int × Bool) :=
 JQ x0 x1 ((List.length x0 : Nat) : Int) (0, ((List.length x0 : Nat) : Int))
theorem J2u {x0 : List T_api_Copy} {x1 : Int} {o : Int × Bool} (h : JH x0 x1 = some o) :
  rk (J1 p) Jl 0 [] (X (J1 p) J03 ⟨[(0, .p (.sl 3 (List.map J7 x0))), (1, .p (.i .i64 x1)), (2, .fn J0b [] [])], []⟩) = Jz o := by
 unfold JH at h
 try simp only [↓Da, Ua, J03, Je, ↓reduceIte, reduceEqDiff, reduceAdd, reduceLT, reduceMul]
 have e0 := J2t p h
 exact e0
theorem J30 {x0 : List T_api_Copy} {x1 : Int} {o : Int × Bool} (h : JH x0 x1 = some o) : AF (J1 p) JP [.p (.sl 3 (List.map J7 x0)), .p (.i .i64 x1), .fn J0b [] []] [] = Jz o :=
 (J14 (J1 p) (J4T p) rfl).trans (J2u p h)
end
end Go.Am
end
section
namespace Go.Am
set_option maxRecDepth 8000
set_option maxHeartbeats 4000000
set_option linter.unusedSimpArgs false
set_option linter.unusedVariables false
noncomputable section
variable (p : FuncId → Option (List AV → List Blk → Option Res))
def JcD  (r : Int × Bool) : Option Res := some (.tup [.p (.i .i64 r.1), .p (.b r.2)], [])
def J3z (x0 : T_api_Image) (x1 : Int) : Option (Int × Bool) :=
 Option.bind (JH x0.Copies x1) fun r1 =>
 some (r1.1, r1.2)
theorem Jen {x0 : T_api_Image} {x1 : Int} {o : Int × Bool} (h : J3z x0 x1 = some o) :
  rk (J1 p) J5j 0 [] (X (J1 p) J6s ⟨[(0, .data (J4 x0)), (1, .p (.i .i64 x1))], []⟩) = JcD o := by
 unfold J3z at h
 obtain ⟨r1, h2, h⟩ := bi h
 have f3 : ∀ ws new s, (Jq (AF (J1 p)) JP ([.p (.sl 3 (List.map J7 x0.Copies)), .p (.i .i64 x1), .fn J0b [] []], ws) 0 new).run s = some ⟨.tup [.p (.i .i64 r1.1), .p (.b r1.2)], ws⟩ := fun ws new s => (J0K (args' := [.p (.sl 3 (List.map J7 x0.Copies)), .p (.i .i64 x1), .fn J0b [] []]) (bs := []) (css := []) (css' := []) rfl rfl rfl rfl (J30 p h2) rfl rfl rfl ws new s trivial).trans (by simp)
 try simp only [Nf] at f3
 obtain rfl := sj h
 try simp only [↓Da, Ua, J6s, Jf, Je, JiV, *, ↓reduceIte, reduceEqDiff, reduceAdd, reduceLT, reduceMul]
 rfl
theorem Jiz {x0 : T_api_Image} {x1 : Int} {o : Int × Bool} (h : J3z x0 x1 = some o) : AF (J1 p) J4f [.data (J4 x0), .p (.i .i64 x1)] [] = JcD o :=
 (J14 (J1 p) (Jj1 p) rfl).trans (Jen p h)
theorem JcO {x0 : T_api_Image} {x1 : Int} {o : Int × Bool} (h : J3z x0 x1 = some o) : ∀ ws new st, (Jq (AF (J1 p)) J4f ([.data (J4 x0), .p (.i .i64 x1)], ws) 0 new).run st = some ⟨.tup [.p (.i .i64 o.1), .p (.b o.2)], ws⟩ := JE rfl (Jiz p h) rfl
def J4V  (r : Bool) : Option Res := some (.p (.b r), [])
def JgU (b0 : T_api_Page) (o : (Int) ⊕ (Bool)) : Option Res := match o with
 | .inl s => rk (J1 p) J1Q 0 [.bl 0, .sq (.keep [] J37)] (X (J1 p) (.lp 1 [1, 3] J0r) ⟨[(1, .ptr 0 0), (3, .p (.i .i64 s))], [.box (List.map AV.p (J3 b0))]⟩)
 | .inr o => J4V o
def J6T  : Option (Bool) :=
 some true
theorem JgN {B0 : List PV} {o : Bool} (h : J6T = some o) :
  rk (J1 p) J1Q 0 [] (X (J1 p) J37 ⟨[], [.box (List.map AV.p B0)]⟩) = J4V o := by
 unfold J6T at h
 obtain rfl := sj h
 try simp only [↓Da, Ua, J37, J9n, ↓reduceIte, reduceEqDiff, reduceAdd, reduceLT, reduceMul]
 rfl
def J1h (b0 : T_api_Page) (x3 : Int) : Option (((Int) ⊕ (Bool))) :=
 if (decide (x3 < 16)) then
  Option.bind (inb 16 x3) fun u2 =>
  Option.bind (J6Q b0.Cells x3) fun y5 =>
  Option.bind (J0l y5) fun r8 =>
  if r8 then
   if ((b0.LSN : Int) == 0) then
    if y5.Set then
     some (.inr false)
    else
     some (.inl (IntKind.wrap .i64 (x3 + 1)))
   else
    some (.inl (IntKind.wrap .i64 (x3 + 1)))
  else
   some (.inr false)
 else
  Option.map (fun o => .inr o) (J6T)
theorem JaC {b0 : T_api_Page} {x3 : Int} {o : ((Int) ⊕ (Bool))} (h : J1h b0 x3 = some o) :
  rk (J1 p) J1Q 0 [.lo 1 [1, 3] J0r, .bl 0, .sq (.keep [] J37)] (X (J1 p) J0r ⟨[(1, .ptr 0 0), (3, .p (.i .i64 x3))], [.box (List.map AV.p (J3 b0))]⟩) = (JgU p b0) o := by
 unfold J1h at h
 rcases Jd h with ⟨h1, h⟩ | ⟨h1, h⟩
 ·obtain ⟨u2, h3, h⟩ := bi h
  have f4 : (0 ≤ (x3 : Int) ∧ (x3 : Int) < ((16 : Nat) : Int)) = True := eq_true (J8f h3)
  obtain ⟨y5, h6, h⟩ := bi h
  have f7 : sub (J3 b0) (2 + Int.toNat x3 * 2) 2 = some (Jb y5) := by
   have e0 := (J5T (J1i b0) (J7C (v := b0.Cells) JT (J3J h6).2))
   exact e0
  try simp only [Nf] at f7
  obtain ⟨r8, h9, h⟩ := bi h
  have f10 := Jes p h9
  try simp only [Nf] at f10
  try simp only [↓Da, Ua, J0r, J5, J2, J6, *, ↓reduceIte, reduceEqDiff, reduceAdd, reduceLT, reduceMul]
  rcases Jd h with ⟨h11, h⟩ | ⟨h11, h⟩
  ·try simp only [↓Da, Ua, J0r, J5, J2, J6, *, ↓reduceIte, reduceEqDiff, reduceAdd, reduceLT, reduceMul]
   rcases Jd h with ⟨h12, h⟩ | ⟨h12, h⟩
   ·have h12n : ((b0.LSN : Int) != 0) = false := by rw [bne, h12]; rfl
    have f13 : sub (J3 b0) (2 + Int.toNat x3 * 2) 1 = some (r_b y5.Set) := by
     have e0 := (J5T (J5T (J1i b0) (J7C (v := b0.Cells) JT (J3J h6).2)) (J84 y5))
     exact e0
    try simp only [Nf] at f13
    try simp only [↓Da, Ua, J0r, J5, J2, J6, *, ↓reduceIte, reduceEqDiff, reduceAdd, reduceLT, reduceMul]
    rcases Jd h with ⟨h14, h⟩ | ⟨h14, h⟩
    ·obtain rfl := sj h
     try simp only [↓Da, Ua, J0r, J5, J2, J6, J9n, *, ↓reduceIte, reduceEqDiff, reduceAdd, reduceLT, reduceMul]
     rfl
    ·obtain rfl := sj h
     try simp only [↓Da, Ua, J0r, J5, J2, J6, *, ↓reduceIte, reduceEqDiff, reduceAdd, reduceLT, reduceMul]
     rfl
   ·have h12n : ((b0.LSN : Int) != 0) = true := by rw [bne, h12]; rfl
    obtain rfl := sj h
    try simp only [↓Da, Ua, J0r, J5, J2, J6, *, ↓reduceIte, reduceEqDiff, reduceAdd, reduceLT, reduceMul]
    rfl
  ·obtain rfl := sj h
   try simp only [↓Da, Ua, J0r, J5, J2, J6, J9n, *, ↓reduceIte, reduceEqDiff, reduceAdd, reduceLT, reduceMul]
   rfl
 ·obtain ⟨o', h', rfl⟩ := mi h
  try simp only [↓Da, Ua, J0r, J5, J2, J6, *, ↓reduceIte, reduceEqDiff, reduceAdd, reduceLT, reduceMul]
  have e0 := JgN p (B0 := (J3 b0)) h'
  first | exact e0 | (simp only [*] at e0; exact e0)
def JaS (b0 : T_api_Page) (s : Int) : Option (Bool) :=
 Ju (fun s => J1h b0 s) s
theorem Jef {b0 : T_api_Page} {s : Int} {o : Bool} (h : JaS b0 s = some o) :
  rk (J1 p) J1Q 0 [.bl 0, .sq (.keep [] J37)] (X (J1 p) (.lp 1 [1, 3] J0r) ⟨[(1, .ptr 0 0), (3, .p (.i .i64 s))], [.box (List.map AV.p (J3 b0))]⟩) = J4V o := by
 have h0 : Ju (fun s => J1h b0 s) s = some o := h
 exact J0T (P := fun (s : Int) (o : Bool) => rk (J1 p) J1Q 0 [.bl 0, .sq (.keep [] J37)] (X (J1 p) (.lp 1 [1, 3] J0r) ⟨[(1, .ptr 0 0), (3, .p (.i .i64 s))], [.box (List.map AV.p (J3 b0))]⟩) = J4V o) (fun s r hs => by rw [J19]; exact JaC p hs) (fun s s1 r hs ih => by rw [J19]; exact (JaC p hs).trans ih) h0
def J4c (x0 : T_api_Page) : Option (Bool) :=
 JaS x0 0
theorem Jee {x0 : T_api_Page} {o : Bool} (h : J4c x0 = some o) :
  rk (J1 p) J1Q 0 [] (X (J1 p) J6v ⟨[(0, .data (J3 x0))], []⟩) = J4V o := by
 unfold J4c at h
 try simp only [↓Da, Ua, J6v, J5, J2, J6, ↓reduceIte, reduceEqDiff, reduceAdd, reduceLT, reduceMul]
 have e0 := Jef p h
 first | exact e0 | (simp only [*] at e0; exact e0)
theorem JiJ {x0 : T_api_Page} {o : Bool} (h : J4c x0 = some o) : AF (J1 p) J53 [.data (J3 x0)] [] = J4V o :=
 (J14 (J1 p) (JiS p) rfl).trans (Jee p h)
theorem Jj0 {x0 : T_api_Page} {o : Bool} (h : J4c x0 = some o) : ∀ ws new st, (Jq (AF (J1 p)) J53 ([.data (J3 x0)], ws) 0 new).run st = some ⟨.p (.b o), ws⟩ := JE rfl (JiJ p h) rfl
def J5i  (r : (List UInt8) × Int) : Option Res := some (.tup [.p (.s r.1), .p (.i .i64 r.2)], [])
def Jgl (x28 : Vector J8 16) (b0 : T_api_Page) (o : (Int × T_page_builder) ⊕ ((List UInt8) × Int)) : Option Res := match o with
 | .inl s => rk (J1 p) J1S 0 [.bl 1, .td 2 [1, 2, 3, 4], .sq (.keep [1, 4] J3b)] (X (J1 p) (.lp 2 [1, 4, 5, 28, 29] J2r) ⟨[(1, .ptr 0 0), (4, .ptr 1 0), (5, .fn J0J [.ptr 1 0] []), (28, .data ((JW Jb) x28)), (29, .p (.i .i64 s.1))], [.box (List.map AV.p (J3 b0)), .box (List.map AV.p (J0t s.2))]⟩)
 | .inr o => J5i o
def J5s (b0 : T_api_Page) (b1 : T_page_builder) : Option ((List UInt8) × Int) :=
 Option.bind (J2V ([0]) (IntKind.wrap .i64 (244 - ((List.length b1.s_ : Nat) : Int)))) fun r1 =>
 Option.bind (J3e b1.s_ r1) fun s5 =>
 Option.bind (J1m s5) fun r7 =>
 Option.bind (J0i s5 (IntKind.wrap .i64 r7) 4) fun r11 =>
 Option.bind (J0i r11 b0.LSN 8) fun r15 =>
 some (r15, 0)
theorem Jgs {b0 : T_api_Page} {b1 : T_page_builder} {o : (List UInt8) × Int} (h : J5s b0 b1 = some o) :
  rk (J1 p) J1S 0 [] (X (J1 p) J3b ⟨[(1, .ptr 0 0), (4, .ptr 1 0)], [.box (List.map AV.p (J3 b0)), .box (List.map AV.p (J0t b1))]⟩) = J5i o := by
 unfold J5s at h
 obtain ⟨r1, h2, h⟩ := bi h
 have f3 := J85 p h2
 try simp only [Nf, Jw] at f3
 have f4 : ∀ ws k new s, Ja ((Jq (AF (J1 p)) J1L ([.p (.s [0]), .p (.i .i64 (IntKind.wrap .i64 (244 - ((List.length b1.s_ : Nat) : Int))))], ws) k new).reads s) = [] := J0V rfl
 try simp only [Nf, Jw] at f4
 obtain ⟨s5, h6, h⟩ := bi h
 obtain ⟨r7, h8, h⟩ := bi h
 have f9 := Jba p h8
 try simp only [Nf, Jw] at f9
 have f10 : ∀ ws k new s, Ja ((Jq (AF (J1 p)) J3U ([.p (.s s5)], ws) k new).reads s) = [] := J0V rfl
 try simp only [Nf, Jw] at f10
 obtain ⟨r11, h12, h⟩ := bi h
 have f13 := J5D p h12
 try simp only [Nf, Jw] at f13
 have f14 : ∀ ws k new s, Ja ((Jq (AF (J1 p)) J17 ([.p (.s s5), .p (.i .i64 (IntKind.wrap .i64 r7)), .p (.i .i64 4)], ws) k new).reads s) = [] := J0V rfl
 try simp only [Nf, Jw] at f14
 obtain ⟨r15, h16, h⟩ := bi h
 have f17 := J5D p h16
 try simp only [Nf, Jw] at f17
 have f18 : ∀ ws k new s, Ja ((Jq (AF (J1 p)) J17 ([.p (.s r11), .p (.i .i64 b0.LSN), .p (.i .i64 8)], ws) k new).reads s) = [] := J0V rfl
 try simp only [Nf, Jw] at f18
 obtain rfl := sj h
 try simp only [↓Da, Ua, Ra, J3b, J5, J2, J6, Jw, J9D, *, ↓reduceIte, reduceEqDiff, reduceAdd, reduceLT, reduceMul, Nat.reduceBEq]
 rfl
def J1D (x28 : Vector J8 16) (b0 : T_api_Page) (x29 : Int) (b1 : T_page_builder) : Option (((Int × T_page_builder) ⊕ ((List UInt8) × Int))) :=
 if (decide (x29 < 16)) then
  Option.bind (J6Q x28 x29) fun y2 =>
  Option.bind (J1s b1 y2) fun r6 =>
  some (.inl ((IntKind.wrap .i64 (x29 + 1)), r6))
 else
  Option.map (fun o => .inr o) (J5s b0 b1)
theorem JaV {x28 : Vector J8 16} {b0 : T_api_Page} {x29 : Int} {b1 : T_page_builder} {o : ((Int × T_page_builder) ⊕ ((List UInt8) × Int))} (h : J1D x28 b0 x29 b1 = some o) :
  rk (J1 p) J1S 0 [.lo 2 [1, 4, 5, 28, 29] J2r, .bl 1, .td 2 [1, 2, 3, 4], .sq (.keep [1, 4] J3b)] (X (J1 p) J2r ⟨[(1, .ptr 0 0), (4, .ptr 1 0), (5, .fn J0J [.ptr 1 0] []), (28, .data ((JW Jb) x28)), (29, .p (.i .i64 x29))], [.box (List.map AV.p (J3 b0)), .box (List.map AV.p (J0t b1))]⟩) = (Jgl p x28 b0) o := by
 unfold J1D at h
 rcases Jd h with ⟨h1, h⟩ | ⟨h1, h⟩
 ·obtain ⟨y2, h3, h⟩ := bi h
  have f4 : (0 ≤ (x29 : Int) ∧ (x29 : Int) < ((16 : Nat) : Int)) = True := eq_true (J3J h3).1
  have f5 : sub (JW Jb x28) (Int.toNat x29 * 2) 2 = some (Jb y2) := J7C JT (J3J h3).2
  try simp only [Nf, Jw] at f5
  obtain ⟨r6, h7, h⟩ := bi h
  have f8 : ∀ ws new s, J1o ws s [1] [List.map AV.p (J0t b1)] → (Jq (AF (J1 p)) J0J ([.ptr 1 0, .data (Jb y2)], ws) 0 new).run s = some ⟨.tup [], ws ++ [(1, .box (List.map AV.p (J0t r6)))]⟩ := J0K (args' := [.ptr 0 0, .data (Jb y2)]) (bs := [1]) (css := [List.map AV.p (J0t b1)]) (css' := [List.map AV.p (J0t r6)]) rfl rfl rfl (by simp [JN, Jr]) (Jd1 p h7) rfl rfl (by simp [JN, Jr])
  try simp only [Nf, Jw] at f8
  obtain rfl := sj h
  try simp only [↓Da, Ua, J2r, J5, Jw, *, ↓reduceIte, reduceEqDiff, reduceAdd, reduceLT, reduceMul]
  rfl
 ·obtain ⟨o', h', rfl⟩ := mi h
  try simp only [↓Da, Ua, J2r, J5, Jw, *, ↓reduceIte, reduceEqDiff, reduceAdd, reduceLT, reduceMul]
  have e0 := Jgs p h'
  exact e0
def J8H (x28 : Vector J8 16) (b0 : T_api_Page) (s : Int × T_page_builder) : Option ((List UInt8) × Int) :=
 Ju (fun s => J1D x28 b0 s.1 s.2) s
theorem Jed {x28 : Vector J8 16} {b0 : T_api_Page} {s : Int × T_page_builder} {o : (List UInt8) × Int} (h : J8H x28 b0 s = some o) :
  rk (J1 p) J1S 0 [.bl 1, .td 2 [1, 2, 3, 4], .sq (.keep [1, 4] J3b)] (X (J1 p) (.lp 2 [1, 4, 5, 28, 29] J2r) ⟨[(1, .ptr 0 0), (4, .ptr 1 0), (5, .fn J0J [.ptr 1 0] []), (28, .data ((JW Jb) x28)), (29, .p (.i .i64 s.1))], [.box (List.map AV.p (J3 b0)), .box (List.map AV.p (J0t s.2))]⟩) = J5i o := by
 have h0 : Ju (fun s => J1D x28 b0 s.1 s.2) s = some o := h
 exact J0T (P := fun (s : Int × T_page_builder) (o : (List UInt8) × Int) => rk (J1 p) J1S 0 [.bl 1, .td 2 [1, 2, 3, 4], .sq (.keep [1, 4] J3b)] (X (J1 p) (.lp 2 [1, 4, 5, 28, 29] J2r) ⟨[(1, .ptr 0 0), (4, .ptr 1 0), (5, .fn J0J [.ptr 1 0] []), (28, .data ((JW Jb) x28)), (29, .p (.i .i64 s.1))], [.box (List.map AV.p (J3 b0)), .box (List.map AV.p (J0t s.2))]⟩) = J5i o) (fun s r hs => by rw [J19]; exact JaV p hs) (fun s s1 r hs ih => by rw [J19]; exact (JaV p hs).trans ih) h0
def J0x (x0 : T_api_Page) : Option ((List UInt8) × Int) :=
 Option.bind (J1f x0) fun r1 =>
 if r1 then
  Option.bind (J3W x0) fun r5 =>
  if r5 then
   Option.bind (J0i ([]) x0.LSN 8) fun r9 =>
   Option.bind (J0i r9 x0.ID 4) fun r13 =>
   J8H x0.Cells x0 (0, (⟨r13⟩ : T_page_builder))
  else
   some (([] : List UInt8), 22)
 else
  some (([] : List UInt8), 1)
theorem Jel {x0 : T_api_Page} {o : (List UInt8) × Int} (h : J0x x0 = some o) :
  rk (J1 p) J1S 0 [] (X (J1 p) J2L ⟨[(0, .data (J3 x0))], []⟩) = J5i o := by
 unfold J0x at h
 obtain ⟨r1, h2, h⟩ := bi h
 have f3 := Jjh p h2
 try simp only [Nf, Jw] at f3
 try simp only [↓Da, Ua, Ra, J2L, J5, J2, J6, Jw, *, ↓reduceIte, reduceEqDiff, reduceAdd, reduceLT, reduceMul, Nat.reduceBEq]
 rcases Jd h with ⟨h4, h⟩ | ⟨h4, h⟩
 ·obtain ⟨r5, h6, h⟩ := bi h
  have f7 := Jkg p h6
  try simp only [Nf, Jw] at f7
  try simp only [↓Da, Ua, Ra, J2L, J5, J2, J6, Jw, *, ↓reduceIte, reduceEqDiff, reduceAdd, reduceLT, reduceMul, Nat.reduceBEq]
  rcases Jd h with ⟨h8, h⟩ | ⟨h8, h⟩
  ·obtain ⟨r9, h10, h⟩ := bi h
   have f11 := J5D p h10
   try simp only [Nf, Jw] at f11
   have f12 : ∀ ws k new s, Ja ((Jq (AF (J1 p)) J17 ([.p (.s []), .p (.i .i64 x0.LSN), .p (.i .i64 8)], ws) k new).reads s) = [] := J0V rfl
   try simp only [Nf, Jw] at f12
   obtain ⟨r13, h14, h⟩ := bi h
   have f15 := J5D p h14
   try simp only [Nf, Jw] at f15
   have f16 : ∀ ws k new s, Ja ((Jq (AF (J1 p)) J17 ([.p (.s r9), .p (.i .i64 x0.ID), .p (.i .i64 4)], ws) k new).reads s) = [] := J0V rfl
   try simp only [Nf, Jw] at f16
   try simp only [↓Da, Ua, Ra, J2L, J5, J2, J6, Jw, *, ↓reduceIte, reduceEqDiff, reduceAdd, reduceLT, reduceMul, Nat.reduceBEq]
   have e0 := Jed p h
   exact e0
  ·obtain rfl := sj h
   try simp only [↓Da, Ua, Ra, J2L, J5, J2, J6, Jw, J9D, *, ↓reduceIte, reduceEqDiff, reduceAdd, reduceLT, reduceMul, Nat.reduceBEq]
   rfl
 ·obtain rfl := sj h
  try simp only [↓Da, Ua, Ra, J2L, J5, J2, J6, Jw, J9D, *, ↓reduceIte, reduceEqDiff, reduceAdd, reduceLT, reduceMul, Nat.reduceBEq]
  rfl
theorem JiG {x0 : T_api_Page} {o : (List UInt8) × Int} (h : J0x x0 = some o) : AF (J1 p) J55 [.data (J3 x0)] [] = J5i o :=
 (J14 (J1 p) (JiB p) rfl).trans (Jel p h)
theorem Jjc {x0 : T_api_Page} {o : (List UInt8) × Int} (h : J0x x0 = some o) : ∀ ws new st, (Jq (AF (J1 p)) J55 ([.data (J3 x0)], ws) 0 new).run st = some ⟨.tup [.p (.s o.1), .p (.i .i64 o.2)], ws⟩ := JE rfl (JiG p h) rfl
def Jco  (r : (List UInt8)) : Option Res := some (.p (.s r), [])
def J2b (x0 : List UInt8) : Option ((List UInt8)) :=
 if (decide (((List.length x0 : Nat) : Int) > 8392)) then
  some ([] : List UInt8)
 else
  Option.bind (J0i ([]) ((List.length x0 : Nat) : Int) 4) fun r2 =>
  Option.bind (J3e r2 x0) fun s5 =>
  Option.bind (J1m s5) fun r7 =>
  Option.bind (J0i s5 (IntKind.wrap .i64 r7) 4) fun r10 =>
  some r10
theorem Jev {x0 : List UInt8} {o : (List UInt8)} (h : J2b x0 = some o) :
  rk (J1 p) J5h 0 [] (X (J1 p) J5e ⟨[(0, .p (.s x0))], []⟩) = Jco o := by
 unfold J2b at h
 rcases Jd h with ⟨h1, h⟩ | ⟨h1, h⟩
 ·obtain rfl := sj h
  try simp only [↓Da, Ua, J5e, JcF, *, ↓reduceIte, reduceEqDiff, reduceAdd, reduceLT, reduceMul]
  rfl
 ·obtain ⟨r2, h3, h⟩ := bi h
  have f4 := J5D p h3
  try simp only [Nf] at f4
  obtain ⟨s5, h6, h⟩ := bi h
  obtain ⟨r7, h8, h⟩ := bi h
  have f9 := Jba p h8
  try simp only [Nf] at f9
  obtain ⟨r10, h11, h⟩ := bi h
  have f12 := J5D p h11
  try simp only [Nf] at f12
  obtain rfl := sj h
  try simp only [↓Da, Ua, J5e, JcF, *, ↓reduceIte, reduceEqDiff, reduceAdd, reduceLT, reduceMul]
  rfl
theorem Jix {x0 : List UInt8} {o : (List UInt8)} (h : J2b x0 = some o) : AF (J1 p) J7N [.p (.s x0)] [] = Jco o :=
 (J14 (J1 p) (JiW p) rfl).trans (Jev p h)
def JcW  (r : Int) : Option Res := some (.p (.i .i64 r), [])
def J4m (x0 : T_api_Page) : Option (Int) :=
 Option.bind (J36 x0) fun r1 =>
 if r1 then
  Option.bind (J4c x0) fun r5 =>
  if r5 then
   some 0
  else
   some 22
 else
  some 1
theorem JeC {x0 : T_api_Page} {o : Int} (h : J4m x0 = some o) :
  rk (J1 p) J51 0 [] (X (J1 p) J2I ⟨[(0, .data (J3 x0))], []⟩) = JcW o := by
 unfold J4m at h
 obtain ⟨r1, h2, h⟩ := bi h
 have f3 := Jgw p h2
 try simp only [Nf] at f3
 try simp only [↓Da, Ua, J2I, J5, J2, J6, *, ↓reduceIte, reduceEqDiff, reduceAdd, reduceLT, reduceMul]
 rcases Jd h with ⟨h4, h⟩ | ⟨h4, h⟩
 ·obtain ⟨r5, h6, h⟩ := bi h
  have f7 := Jj0 p h6
  try simp only [Nf] at f7
  try simp only [↓Da, Ua, J2I, J5, J2, J6, *, ↓reduceIte, reduceEqDiff, reduceAdd, reduceLT, reduceMul]
  rcases Jd h with ⟨h8, h⟩ | ⟨h8, h⟩
  ·obtain rfl := sj h
   try simp only [↓Da, Ua, J2I, J5, J2, J6, J9v, *, ↓reduceIte, reduceEqDiff, reduceAdd, reduceLT, reduceMul]
   rfl
  ·obtain rfl := sj h
   try simp only [↓Da, Ua, J2I, J5, J2, J6, J9v, *, ↓reduceIte, reduceEqDiff, reduceAdd, reduceLT, reduceMul]
   rfl
 ·obtain rfl := sj h
  try simp only [↓Da, Ua, J2I, J5, J2, J6, J9v, *, ↓reduceIte, reduceEqDiff, reduceAdd, reduceLT, reduceMul]
  rfl
theorem Jjq {x0 : T_api_Page} {o : Int} (h : J4m x0 = some o) : AF (J1 p) J59 [.data (J3 x0)] [] = JcW o :=
 (J14 (J1 p) (Jj2 p) rfl).trans (JeC p h)
theorem Jj7 {x0 : T_api_Page} {o : Int} (h : J4m x0 = some o) : ∀ ws new st, (Jq (AF (J1 p)) J59 ([.data (J3 x0)], ws) 0 new).run st = some ⟨.p (.i .i64 o), ws⟩ := JE rfl (Jjq p h) rfl
def JcK  (r : T_api_Page × Int) : Option Res := some (.tup [.data (J3 r.1), .p (.i .i64 r.2)], [])
def J0w (x0 : List UInt8) : Option (T_api_Page × Int) :=
 if ((((List.length x0 : Nat) : Int) : Int) != 256) then
  some ((⟨0, 0, (Vector.replicate 16 (⟨false, []⟩ : J8))⟩ : T_api_Page), 2)
 else
  Option.bind (J4K) fun r2 =>
  if (x0 == r2) then
   some ((⟨0, 0, (Vector.replicate 16 (⟨false, []⟩ : J8))⟩ : T_api_Page), 7)
  else
   Option.bind (J28 x0 none (some 8)) fun m6 =>
   Option.bind (J28 x0 (some 248) none) fun m9 =>
   if (m6 == m9) then
    Option.bind (Jy x0 244 4) fun r13 =>
    Option.bind (J28 x0 none (some 244)) fun m16 =>
    Option.bind (J1m m16) fun r19 =>
    if ((r13 : Int) != (IntKind.wrap .i64 r19)) then
     some ((⟨0, 0, (Vector.replicate 16 (⟨false, []⟩ : J8))⟩ : T_api_Page), 3)
    else
     Option.bind (J2D x0) fun r23 =>
     Option.bind (J0x r23.1) fun r26 =>
     if r23.2 then
      if ((r26.2 : Int) != 0) then
       some ((⟨0, 0, (Vector.replicate 16 (⟨false, []⟩ : J8))⟩ : T_api_Page), 4)
      else
       if (r26.1 == x0) then
        some (r23.1, 0)
       else
        some ((⟨0, 0, (Vector.replicate 16 (⟨false, []⟩ : J8))⟩ : T_api_Page), 4)
     else
      some ((⟨0, 0, (Vector.replicate 16 (⟨false, []⟩ : J8))⟩ : T_api_Page), 4)
   else
    some ((⟨0, 0, (Vector.replicate 16 (⟨false, []⟩ : J8))⟩ : T_api_Page), 27)
theorem JeE {x0 : List UInt8} {o : T_api_Page × Int} (h : J0w x0 = some o) :
  rk (J1 p) J54 0 [] (X (J1 p) J0g ⟨[(0, .p (.s x0))], []⟩) = JcK o := by
 unfold J0w at h
 rcases Jd h with ⟨h1, h⟩ | ⟨h1, h⟩
 ·obtain rfl := sj h
  try simp only [↓Da, Ua, J0g, J5, J2, J6, J3C, *, ↓reduceIte, reduceEqDiff, reduceAdd, reduceLT, reduceMul]
  rfl
 ·obtain ⟨r2, h3, h⟩ := bi h
  have f4 := JjP p h3
  try simp only [Nf] at f4
  try simp only [↓Da, Ua, J0g, J5, J2, J6, *, ↓reduceIte, reduceEqDiff, reduceAdd, reduceLT, reduceMul]
  rcases Jd h with ⟨h5, h⟩ | ⟨h5, h⟩
  ·obtain rfl := sj h
   try simp only [↓Da, Ua, J0g, J5, J2, J6, J3C, *, ↓reduceIte, reduceEqDiff, reduceAdd, reduceLT, reduceMul]
   rfl
  ·obtain ⟨m6, h7, h⟩ := bi h
   have f8 : J4L (.p (.s x0)) none (some (.p (.i .i64 8))) = some (.p (.s m6)) := J9d (k := .i64) (lo := none) (hi := (some 8)) h7
   try simp only [Nf] at f8
   obtain ⟨m9, h10, h⟩ := bi h
   have f11 : J4L (.p (.s x0)) (some (.p (.i .i64 248))) none = some (.p (.s m9)) := J9d (k := .i64) (lo := (some 248)) (hi := none) h10
   try simp only [Nf] at f11
   try simp only [↓Da, Ua, J0g, J5, J2, J6, *, ↓reduceIte, reduceEqDiff, reduceAdd, reduceLT, reduceMul]
   rcases Jd h with ⟨h12, h⟩ | ⟨h12, h⟩
   ·obtain ⟨r13, h14, h⟩ := bi h
    have f15 := J7L p h14
    try simp only [Nf] at f15
    obtain ⟨m16, h17, h⟩ := bi h
    have f18 : J4L (.p (.s x0)) none (some (.p (.i .i64 244))) = some (.p (.s m16)) := J9d (k := .i64) (lo := none) (hi := (some 244)) h17
    try simp only [Nf] at f18
    obtain ⟨r19, h20, h⟩ := bi h
    have f21 := Jba p h20
    try simp only [Nf] at f21
    try simp only [↓Da, Ua, J0g, J5, J2, J6, *, ↓reduceIte, reduceEqDiff, reduceAdd, reduceLT, reduceMul]
    rcases Jd h with ⟨h22, h⟩ | ⟨h22, h⟩
    ·obtain rfl := sj h
     try simp only [↓Da, Ua, J0g, J5, J2, J6, J3C, *, ↓reduceIte, reduceEqDiff, reduceAdd, reduceLT, reduceMul]
     rfl
    ·obtain ⟨r23, h24, h⟩ := bi h
     have f25 := Jl8 p h24
     try simp only [Nf] at f25
     obtain ⟨r26, h27, h⟩ := bi h
     have f28 := Jjc p h27
     try simp only [Nf] at f28
     try simp only [↓Da, Ua, J0g, J5, J2, J6, *, ↓reduceIte, reduceEqDiff, reduceAdd, reduceLT, reduceMul]
     rcases Jd h with ⟨h29, h⟩ | ⟨h29, h⟩
     ·try simp only [↓Da, Ua, J0g, J5, J2, J6, *, ↓reduceIte, reduceEqDiff, reduceAdd, reduceLT, reduceMul]
      rcases Jd h with ⟨h30, h⟩ | ⟨h30, h⟩
      ·obtain rfl := sj h
       try simp only [↓Da, Ua, J0g, J5, J2, J6, J3C, *, ↓reduceIte, reduceEqDiff, reduceAdd, reduceLT, reduceMul]
       rfl
      ·try simp only [↓Da, Ua, J0g, J5, J2, J6, *, ↓reduceIte, reduceEqDiff, reduceAdd, reduceLT, reduceMul]
       rcases Jd h with ⟨h31, h⟩ | ⟨h31, h⟩
       ·obtain rfl := sj h
        try simp only [↓Da, Ua, J0g, J5, J2, J6, J3C, *, ↓reduceIte, reduceEqDiff, reduceAdd, reduceLT, reduceMul]
        rfl
       ·obtain rfl := sj h
        try simp only [↓Da, Ua, J0g, J5, J2, J6, J3C, *, ↓reduceIte, reduceEqDiff, reduceAdd, reduceLT, reduceMul]
        rfl
     ·obtain rfl := sj h
      try simp only [↓Da, Ua, J0g, J5, J2, J6, J3C, *, ↓reduceIte, reduceEqDiff, reduceAdd, reduceLT, reduceMul]
      rfl
   ·obtain rfl := sj h
    try simp only [↓Da, Ua, J0g, J5, J2, J6, J3C, *, ↓reduceIte, reduceEqDiff, reduceAdd, reduceLT, reduceMul]
    rfl
theorem JiC {x0 : List UInt8} {o : T_api_Page × Int} (h : J0w x0 = some o) : AF (J1 p) J5l [.p (.s x0)] [] = JcK o :=
 (J14 (J1 p) (Jj8 p) rfl).trans (JeE p h)
theorem Jjo {x0 : List UInt8} {o : T_api_Page × Int} (h : J0w x0 = some o) : ∀ ws new st, (Jq (AF (J1 p)) J5l ([.p (.s x0)], ws) 0 new).run st = some ⟨.tup [.data (J3 o.1), .p (.i .i64 o.2)], ws⟩ := JE rfl (JiC p h) rfl
def J4E  (r : (List UInt8) × Int) : Option Res := some (.tup [.p (.s r.1), .p (.i .i64 r.2)], [])
def J82 (b0 : T_api_Page) (o : ((List UInt8) × Int) ⊕ ((List UInt8) × Int)) : Option Res := match o with
 | .inl s => rk (J1 p) J0Y 0 [.bl 0, .sq (.keep [1, 5] J1K)] (X (J1 p) (.lp 1 [1, 5, 6] J0M) ⟨[(1, .ptr 0 0), (5, .p (.s s.1)), (6, .p (.i .i64 s.2))], [.box (List.map AV.p (J3 b0))]⟩)
 | .inr o => J4E o
def J6c (x5 : List UInt8) (x6 : Int) (b0 : T_api_Page) : Option ((((List UInt8) × Int) ⊕ ((List UInt8) × Int))) :=
 some (.inl (x5, (IntKind.wrap .i64 (x6 + 1))))
theorem Jf8 {x5 : List UInt8} {x6 : Int} {b0 : T_api_Page} {o : (((List UInt8) × Int) ⊕ ((List UInt8) × Int))} (h : J6c x5 x6 b0 = some o) :
  rk (J1 p) J0Y 0 [.lo 1 [1, 5, 6] J0M, .bl 0, .sq (.keep [1, 5] J1K)] (X (J1 p) J6k ⟨[(1, .ptr 0 0), (5, .p (.s x5)), (6, .p (.i .i64 x6))], [.box (List.map AV.p (J3 b0))]⟩) = (J82 p b0) o := by
 unfold J6c at h
 obtain rfl := sj h
 try simp only [↓Da, Ua, J6k, ↓reduceIte, reduceEqDiff, reduceAdd, reduceLT, reduceMul]
 rfl
def J3O (x5 : List UInt8) (x6 x7 : Int) (b0 : T_api_Page) : Option ((((List UInt8) × Int) ⊕ ((List UInt8) × Int))) :=
 Option.bind (J18 x5 x7 1) fun r1 =>
 Option.bind (inb 16 x6) fun u4 =>
 Option.bind (J6Q b0.Cells x6) fun y7 =>
 Option.bind (J1R (IntKind.wrap .i64 (12 - ((List.length y7.Data : Nat) : Int)))) fun r11 =>
 Option.bind (J3e y7.Data r11) fun s15 =>
 Option.bind (J3e r1 s15) fun s17 =>
 J6c s17 x6 b0
theorem Jaj {x5 : List UInt8} {x6 x7 : Int} {b0 : T_api_Page} {o : (((List UInt8) × Int) ⊕ ((List UInt8) × Int))} (h : J3O x5 x6 x7 b0 = some o) :
  rk (J1 p) J0Y 0 [.bl 1, .sq (.keep [1, 5, 6] J6k), .lo 1 [1, 5, 6] J0M, .bl 0, .sq (.keep [1, 5] J1K)] (X (J1 p) J80 ⟨[(1, .ptr 0 0), (5, .p (.s x5)), (6, .p (.i .i64 x6)), (7, .p (.i .i64 x7))], [.box (List.map AV.p (J3 b0))]⟩) = (J82 p b0) o := by
 unfold J3O at h
 obtain ⟨r1, h2, h⟩ := bi h
 have f3 := J7y p h2
 try simp only [Nf] at f3
 obtain ⟨u4, h5, h⟩ := bi h
 have f6 : (0 ≤ (x6 : Int) ∧ (x6 : Int) < ((16 : Nat) : Int)) = True := eq_true (J8f h5)
 obtain ⟨y7, h8, h⟩ := bi h
 have f9 : sub (J3 b0) ((2 + Int.toNat x6 * 2) + 1) 1 = some (r_s y7.Data) := by
  have e0 := (J5T (J5T (J1i b0) (J7C (v := b0.Cells) JT (J3J h8).2)) (J5N y7))
  exact e0
 try simp only [Nf] at f9
 have f10 : sub (J3 b0) ((2 + Int.toNat x6 * 2) + 1) 1 = some (r_s y7.Data) := by
  have e0 := (J5T (J5T (J1i b0) (J7C (v := b0.Cells) JT (J3J h8).2)) (J5N y7))
  exact e0
 try simp only [Nf] at f10
 obtain ⟨r11, h12, h⟩ := bi h
 have f13 := JcT p h12
 try simp only [Nf] at f13
 have f14 : ∀ ws k new s, Ja ((Jq (AF (J1 p)) J2T ([.p (.i .i64 (IntKind.wrap .i64 (12 - ((List.length y7.Data : Nat) : Int))))], ws) k new).reads s) = [] := J0V rfl
 try simp only [Nf] at f14
 obtain ⟨s15, h16, h⟩ := bi h
 obtain ⟨s17, h18, h⟩ := bi h
 try simp only [↓Da, Ua, Ra, J80, J5, J2, J6, *, ↓reduceIte, reduceEqDiff, reduceAdd, reduceLT, reduceMul, Nat.reduceBEq]
 have e0 := Jf8 p h
 first | exact e0 | (simp only [*] at e0; exact e0)
def J6m (x5 : List UInt8) (b0 : T_api_Page) : Option ((List UInt8) × Int) :=
 Option.bind (J1R (IntKind.wrap .i64 (244 - ((List.length x5 : Nat) : Int)))) fun r1 =>
 Option.bind (J3e x5 r1) fun s4 =>
 Option.bind (J5G s4) fun r6 =>
 Option.bind (J18 s4 (IntKind.wrap .i64 r6) 4) fun r9 =>
 Option.bind (J18 r9 b0.LSN 8) fun r12 =>
 some (r12, 0)
theorem JfJ {x5 : List UInt8} {b0 : T_api_Page} {o : (List UInt8) × Int} (h : J6m x5 b0 = some o) :
  rk (J1 p) J0Y 0 [] (X (J1 p) J1K ⟨[(1, .ptr 0 0), (5, .p (.s x5))], [.box (List.map AV.p (J3 b0))]⟩) = J4E o := by
 unfold J6m at h
 obtain ⟨r1, h2, h⟩ := bi h
 have f3 := JcT p h2
 try simp only [Nf] at f3
 obtain ⟨s4, h5, h⟩ := bi h
 obtain ⟨r6, h7, h⟩ := bi h
 have f8 := JlH p h7
 try simp only [Nf] at f8
 obtain ⟨r9, h10, h⟩ := bi h
 have f11 := J7y p h10
 try simp only [Nf] at f11
 obtain ⟨r12, h13, h⟩ := bi h
 have f14 := J7y p h13
 try simp only [Nf] at f14
 obtain rfl := sj h
 try simp only [↓Da, Ua, J1K, J5, J2, J6, JbJ, *, ↓reduceIte, reduceEqDiff, reduceAdd, reduceLT, reduceMul]
 rfl
def J2U (b0 : T_api_Page) (x5 : List UInt8) (x6 : Int) : Option ((((List UInt8) × Int) ⊕ ((List UInt8) × Int))) :=
 if (decide (x6 < 16)) then
  Option.bind (inb 16 x6) fun u2 =>
  Option.bind (J6Q b0.Cells x6) fun y5 =>
  if y5.Set then
   J3O x5 x6 ((List.length y5.Data : Nat) : Int) b0
  else
   J3O x5 x6 255 b0
 else
  Option.map (fun o => .inr o) (J6m x5 b0)
theorem Jad {b0 : T_api_Page} {x5 : List UInt8} {x6 : Int} {o : (((List UInt8) × Int) ⊕ ((List UInt8) × Int))} (h : J2U b0 x5 x6 = some o) :
  rk (J1 p) J0Y 0 [.lo 1 [1, 5, 6] J0M, .bl 0, .sq (.keep [1, 5] J1K)] (X (J1 p) J0M ⟨[(1, .ptr 0 0), (5, .p (.s x5)), (6, .p (.i .i64 x6))], [.box (List.map AV.p (J3 b0))]⟩) = (J82 p b0) o := by
 unfold J2U at h
 rcases Jd h with ⟨h1, h⟩ | ⟨h1, h⟩
 ·obtain ⟨u2, h3, h⟩ := bi h
  have f4 : (0 ≤ (x6 : Int) ∧ (x6 : Int) < ((16 : Nat) : Int)) = True := eq_true (J8f h3)
  obtain ⟨y5, h6, h⟩ := bi h
  have f7 : sub (J3 b0) (2 + Int.toNat x6 * 2) 1 = some (r_b y5.Set) := by
   have e0 := (J5T (J5T (J1i b0) (J7C (v := b0.Cells) JT (J3J h6).2)) (J84 y5))
   exact e0
  try simp only [Nf] at f7
  try simp only [↓Da, Ua, J0M, J5, J2, J6, *, ↓reduceIte, reduceEqDiff, reduceAdd, reduceLT, reduceMul]
  rcases Jd h with ⟨h8, h⟩ | ⟨h8, h⟩
  ·have f9 : sub (J3 b0) ((2 + Int.toNat x6 * 2) + 1) 1 = some (r_s y5.Data) := by
    have e0 := (J5T (J5T (J1i b0) (J7C (v := b0.Cells) JT (J3J h6).2)) (J5N y5))
    exact e0
   try simp only [Nf] at f9
   try simp only [↓Da, Ua, J0M, J5, J2, J6, *, ↓reduceIte, reduceEqDiff, reduceAdd, reduceLT, reduceMul]
   have e0 := Jaj p h
   first | exact e0 | (simp only [*] at e0; exact e0)
  ·try simp only [↓Da, Ua, J0M, J5, J2, J6, *, ↓reduceIte, reduceEqDiff, reduceAdd, reduceLT, reduceMul]
   have e0 := Jaj p h
   first | exact e0 | (simp only [*] at e0; exact e0)
 ·obtain ⟨o', h', rfl⟩ := mi h
  try simp only [↓Da, Ua, J0M, J5, J2, J6, *, ↓reduceIte, reduceEqDiff, reduceAdd, reduceLT, reduceMul]
  have e0 := JfJ p h'
  first | exact e0 | (simp only [*] at e0; exact e0)
def Ja7 (b0 : T_api_Page) (s : (List UInt8) × Int) : Option ((List UInt8) × Int) :=
 Ju (fun s => J2U b0 s.1 s.2) s
theorem Jdo {b0 : T_api_Page} {s : (List UInt8) × Int} {o : (List UInt8) × Int} (h : Ja7 b0 s = some o) :
  rk (J1 p) J0Y 0 [.bl 0, .sq (.keep [1, 5] J1K)] (X (J1 p) (.lp 1 [1, 5, 6] J0M) ⟨[(1, .ptr 0 0), (5, .p (.s s.1)), (6, .p (.i .i64 s.2))], [.box (List.map AV.p (J3 b0))]⟩) = J4E o := by
 have h0 : Ju (fun s => J2U b0 s.1 s.2) s = some o := h
 exact J0T (P := fun (s : (List UInt8) × Int) (o : (List UInt8) × Int) => rk (J1 p) J0Y 0 [.bl 0, .sq (.keep [1, 5] J1K)] (X (J1 p) (.lp 1 [1, 5, 6] J0M) ⟨[(1, .ptr 0 0), (5, .p (.s s.1)), (6, .p (.i .i64 s.2))], [.box (List.map AV.p (J3 b0))]⟩) = J4E o) (fun s r hs => by rw [J19]; exact Jad p hs) (fun s s1 r hs ih => by rw [J19]; exact (Jad p hs).trans ih) h0
def J2d (x0 : T_api_Page) : Option ((List UInt8) × Int) :=
 Option.bind (J4m x0) fun r1 =>
 if ((r1 : Int) != 0) then
  some (([] : List UInt8), r1)
 else
  Option.bind (J18 ([]) x0.LSN 8) fun r5 =>
  Option.bind (J18 r5 x0.ID 4) fun r8 =>
  Ja7 x0 (r8, 0)
theorem Jdw {x0 : T_api_Page} {o : (List UInt8) × Int} (h : J2d x0 = some o) :
  rk (J1 p) J0Y 0 [] (X (J1 p) J3L ⟨[(0, .data (J3 x0))], []⟩) = J4E o := by
 unfold J2d at h
 obtain ⟨r1, h2, h⟩ := bi h
 have f3 := Jj7 p h2
 try simp only [Nf] at f3
 try simp only [↓Da, Ua, J3L, J5, J2, J6, *, ↓reduceIte, reduceEqDiff, reduceAdd, reduceLT, reduceMul]
 rcases Jd h with ⟨h4, h⟩ | ⟨h4, h⟩
 ·obtain rfl := sj h
  try simp only [↓Da, Ua, J3L, J5, J2, J6, JbJ, *, ↓reduceIte, reduceEqDiff, reduceAdd, reduceLT, reduceMul]
  rfl
 ·obtain ⟨r5, h6, h⟩ := bi h
  have f7 := J7y p h6
  try simp only [Nf] at f7
  obtain ⟨r8, h9, h⟩ := bi h
  have f10 := J7y p h9
  try simp only [Nf] at f10
  try simp only [↓Da, Ua, J3L, J5, J2, J6, *, ↓reduceIte, reduceEqDiff, reduceAdd, reduceLT, reduceMul]
  have e0 := Jdo p h
  first | exact e0 | (simp only [*] at e0; exact e0)
theorem Jha {x0 : T_api_Page} {o : (List UInt8) × Int} (h : J2d x0 = some o) : AF (J1 p) J3M [.data (J3 x0)] [] = J4E o :=
 (J14 (J1 p) (Jh8 p) rfl).trans (Jdw p h)
theorem Jhl {x0 : T_api_Page} {o : (List UInt8) × Int} (h : J2d x0 = some o) : ∀ ws new st, (Jq (AF (J1 p)) J3M ([.data (J3 x0)], ws) 0 new).run st = some ⟨.tup [.p (.s o.1), .p (.i .i64 o.2)], ws⟩ := JE rfl (Jha p h) rfl
def JaD  (r : T_api_Page × Int) : Option Res := some (.tup [.data (J3 r.1), .p (.i .i64 r.2)], [])
def J0j (x0 : List UInt8) (x1 : Int) : Option (T_api_Page × Int) :=
 Option.bind (J0O x1) fun r1 =>
 if r1 then
  Option.bind (J0w x0) fun r5 =>
  if ((r5.2 : Int) == 7) then
   Option.bind (J7e x1) fun r9 =>
   some (r9, 0)
  else
   if ((r5.2 : Int) != 0) then
    some ((⟨0, 0, (Vector.replicate 16 (⟨false, []⟩ : J8))⟩ : T_api_Page), r5.2)
   else
    if ((r5.1.ID : Int) != x1) then
     some ((⟨0, 0, (Vector.replicate 16 (⟨false, []⟩ : J8))⟩ : T_api_Page), 6)
    else
     some (r5.1, 0)
 else
  some ((⟨0, 0, (Vector.replicate 16 (⟨false, []⟩ : J8))⟩ : T_api_Page), 1)
theorem Jd7 {x0 : List UInt8} {x1 : Int} {o : T_api_Page × Int} (h : J0j x0 x1 = some o) :
  rk (J1 p) J45 0 [] (X (J1 p) J0G ⟨[(0, .p (.s x0)), (1, .p (.i .i64 x1))], []⟩) = JaD o := by
 unfold J0j at h
 obtain ⟨r1, h2, h⟩ := bi h
 have f3 := Jdg p h2
 try simp only [Nf] at f3
 try simp only [↓Da, Ua, J0G, J5, J2, J6, *, ↓reduceIte, reduceEqDiff, reduceAdd, reduceLT, reduceMul]
 rcases Jd h with ⟨h4, h⟩ | ⟨h4, h⟩
 ·obtain ⟨r5, h6, h⟩ := bi h
  have f7 := Jjo p h6
  try simp only [Nf] at f7
  try simp only [↓Da, Ua, J0G, J5, J2, J6, *, ↓reduceIte, reduceEqDiff, reduceAdd, reduceLT, reduceMul]
  rcases Jd h with ⟨h8, h⟩ | ⟨h8, h⟩
  ·have h8n : ((r5.2 : Int) != 7) = false := by rw [bne, h8]; rfl
   obtain ⟨r9, h10, h⟩ := bi h
   have f11 := JmW p h10
   try simp only [Nf] at f11
   obtain rfl := sj h
   try simp only [↓Da, Ua, J0G, J5, J2, J6, J5p, *, ↓reduceIte, reduceEqDiff, reduceAdd, reduceLT, reduceMul]
   rfl
  ·have h8n : ((r5.2 : Int) != 7) = true := by rw [bne, h8]; rfl
   try simp only [↓Da, Ua, J0G, J5, J2, J6, *, ↓reduceIte, reduceEqDiff, reduceAdd, reduceLT, reduceMul]
   rcases Jd h with ⟨h12, h⟩ | ⟨h12, h⟩
   ·obtain rfl := sj h
    try simp only [↓Da, Ua, J0G, J5, J2, J6, J5p, *, ↓reduceIte, reduceEqDiff, reduceAdd, reduceLT, reduceMul]
    rfl
   ·try simp only [↓Da, Ua, J0G, J5, J2, J6, *, ↓reduceIte, reduceEqDiff, reduceAdd, reduceLT, reduceMul]
    rcases Jd h with ⟨h13, h⟩ | ⟨h13, h⟩
    ·obtain rfl := sj h
     try simp only [↓Da, Ua, J0G, J5, J2, J6, J5p, *, ↓reduceIte, reduceEqDiff, reduceAdd, reduceLT, reduceMul]
     rfl
    ·obtain rfl := sj h
     try simp only [↓Da, Ua, J0G, J5, J2, J6, J5p, *, ↓reduceIte, reduceEqDiff, reduceAdd, reduceLT, reduceMul]
     rfl
 ·obtain rfl := sj h
  try simp only [↓Da, Ua, J0G, J5, J2, J6, J5p, *, ↓reduceIte, reduceEqDiff, reduceAdd, reduceLT, reduceMul]
  rfl
theorem Jgy {x0 : List UInt8} {x1 : Int} {o : T_api_Page × Int} (h : J0j x0 x1 = some o) : AF (J1 p) J3l [.p (.s x0), .p (.i .i64 x1)] [] = JaD o :=
 (J14 (J1 p) (Jgq p) rfl).trans (Jd7 p h)
theorem J8u {x0 : List UInt8} {x1 : Int} {o : T_api_Page × Int} (h : J0j x0 x1 = some o) : ∀ ws new st, (Jq (AF (J1 p)) J3l ([.p (.s x0), .p (.i .i64 x1)], ws) 0 new).run st = some ⟨.tup [.data (J3 o.1), .p (.i .i64 o.2)], ws⟩ := JE rfl (Jgy p h) rfl
def J6h (x0 : List UInt8) (x7 : Int) (b0 b1 : T_api_Page) : Option (((Int × T_api_Page) ⊕ (T_api_Page × Int))) :=
 some (.inl ((IntKind.wrap .i64 (x7 + 1)), b1))
def J3T (x0 : List UInt8) (b0 b1 : T_api_Page) : Option (T_api_Page × Int) :=
 Option.bind (J2d b1) fun r1 =>
 if ((r1.2 : Int) != 0) then
  some ((⟨0, 0, (Vector.replicate 16 (⟨false, []⟩ : J8))⟩ : T_api_Page), 4)
 else
  if (r1.1 == x0) then
   some (b1, 0)
  else
   some ((⟨0, 0, (Vector.replicate 16 (⟨false, []⟩ : J8))⟩ : T_api_Page), 4)
def J4M (x0 : List UInt8) (b0 : T_api_Page) (x7 : Int) (b1 : T_api_Page) : Option (((Int × T_api_Page) ⊕ (T_api_Page × Int))) :=
 if (decide (x7 < 16)) then
  Option.bind (Jb0 x0 (IntKind.wrap .i64 (12 + (IntKind.wrap .i64 (x7 * 13))))) fun c2 =>
  if (((IntKind.wrap .i64 c2) : Int) == 255) then
   J6h x0 x7 b0 b1
  else
   if (decide ((IntKind.wrap .i64 c2) > 12)) then
    some (.inr ((⟨0, 0, (Vector.replicate 16 (⟨false, []⟩ : J8))⟩ : T_api_Page), 4))
   else
    Option.bind (J28 x0 (some (IntKind.wrap .i64 ((IntKind.wrap .i64 (12 + (IntKind.wrap .i64 (x7 * 13)))) + 1))) (some (IntKind.wrap .i64 ((IntKind.wrap .i64 ((IntKind.wrap .i64 (12 + (IntKind.wrap .i64 (x7 * 13)))) + 1)) + (IntKind.wrap .i64 c2))))) fun m6 =>
    Option.bind (inb 16 x7) fun u9 =>
    Option.bind (J6Q b1.Cells x7) fun y12 =>
    J6h x0 x7 b0 (⟨b1.ID, b1.LSN, (J70 b1.Cells x7 (⟨true, m6⟩ : J8))⟩ : T_api_Page)
 else
  Option.map (fun o => .inr o) (J3T x0 b0 b1)
def Jag (x0 : List UInt8) (b0 : T_api_Page) (s : Int × T_api_Page) : Option (T_api_Page × Int) :=
 Ju (fun s => J4M x0 b0 s.1 s.2) s
def J8Z (x0 : List UInt8) : Option (T_api_Page × Int) :=
 if ((((List.length x0 : Nat) : Int) : Int) != 256) then
  some ((⟨0, 0, (Vector.replicate 16 (⟨false, []⟩ : J8))⟩ : T_api_Page), 2)
 else
  Option.bind (J9l) fun r2 =>
  if (x0 == r2) then
   some ((⟨0, 0, (Vector.replicate 16 (⟨false, []⟩ : J8))⟩ : T_api_Page), 7)
  else
   Option.bind (J28 x0 none (some 8)) fun m6 =>
   Option.bind (J28 x0 (some 248) none) fun m9 =>
   if (m6 == m9) then
    Option.bind (J4A x0 244 4) fun r13 =>
    Option.bind (J28 x0 none (some 244)) fun m16 =>
    Option.bind (J5G m16) fun r19 =>
    if (((IntKind.wrap .u32 r13.1) : Int) != r19) then
     some ((⟨0, 0, (Vector.replicate 16 (⟨false, []⟩ : J8))⟩ : T_api_Page), 3)
    else
     Option.bind (J4A x0 0 8) fun r23 =>
     Option.bind (J4A x0 8 4) fun r26 =>
     Jag x0 (⟨0, 0, (Vector.replicate 16 (⟨false, []⟩ : J8))⟩ : T_api_Page) (0, (⟨r26.1, r23.1, (Vector.replicate 16 (⟨false, []⟩ : J8))⟩ : T_api_Page))
   else
    some ((⟨0, 0, (Vector.replicate 16 (⟨false, []⟩ : J8))⟩ : T_api_Page), 27)
def J50  (r : Bool) : Option Res := some (.p (.b r), [])
def Jgd (x35 : Int) (b0 : T_api_Image) (o : (Int) ⊕ (Bool)) : Option Res := match o with
 | .inl s => rk (J1 p) J1N 0 [.bl 0, .td 1 [2], .sq (.keep [] J39)] (X (J1 p) (.lp 1 [1, 35, 36] JM) ⟨[(1, .ptr 0 0), (35, .p (.i .i64 x35)), (36, .p (.i .i64 s))], [.box (List.map AV.p (J4 b0))]⟩)
 | .inr o => J50 o
def J8y  : Option (Bool) :=
 some true
theorem Jgg {B0 : List PV} {o : Bool} (h : J8y = some o) :
  rk (J1 p) J1N 0 [] (X (J1 p) J39 ⟨[], [.box (List.map AV.p B0)]⟩) = J50 o := by
 unfold J8y at h
 obtain rfl := sj h
 try simp only [↓Da, Ua, J39, J1w, ↓reduceIte, reduceEqDiff, reduceAdd, reduceLT, reduceMul]
 rfl
def J2p (x35 : Int) (b0 : T_api_Image) (x36 : Int) : Option (((Int) ⊕ (Bool))) :=
 if (decide (x36 < x35)) then
  Option.bind (idx b0.Copies x36) fun y2 =>
  if (decide (y2.Page ≥ b0.Pages)) then
   some (.inr false)
  else
   if (decide (x36 > 0)) then
    Option.bind (idx b0.Copies (IntKind.wrap .i64 (x36 - 1))) fun y7 =>
    if (decide (y7.Page ≥ y2.Page)) then
     some (.inr false)
    else
     Option.bind (J0j y2.Data y2.Page) fun r11 =>
     if ((r11.2 : Int) != 0) then
      some (.inr false)
     else
      if ((r11.1.LSN : Int) != y2.LSN) then
       some (.inr false)
      else
       some (.inl (IntKind.wrap .i64 (x36 + 1)))
   else
    Option.bind (J0j y2.Data y2.Page) fun r16 =>
    if ((r16.2 : Int) != 0) then
     some (.inr false)
    else
     if ((r16.1.LSN : Int) != y2.LSN) then
      some (.inr false)
     else
      some (.inl (IntKind.wrap .i64 (x36 + 1)))
 else
  Option.map (fun o => .inr o) (J8y)
theorem JaF {x35 : Int} {b0 : T_api_Image} {x36 : Int} {o : ((Int) ⊕ (Bool))} (h : J2p x35 b0 x36 = some o) :
  rk (J1 p) J1N 0 [.lo 1 [1, 35, 36] JM, .bl 0, .td 1 [2], .sq (.keep [] J39)] (X (J1 p) JM ⟨[(1, .ptr 0 0), (35, .p (.i .i64 x35)), (36, .p (.i .i64 x36))], [.box (List.map AV.p (J4 b0))]⟩) = (Jgd p x35 b0) o := by
 unfold J2p at h
 rcases Jd h with ⟨h1, h⟩ | ⟨h1, h⟩
 ·obtain ⟨y2, h3, h⟩ := bi h
  have f4 := J8b (r := J7) h3
  try simp only [Nf] at f4
  try simp only [↓Da, Ua, JM, Jf, J5, J2, J6, Je, *, ↓reduceIte, reduceEqDiff, reduceAdd, reduceLT, reduceMul]
  rcases Jd h with ⟨h5, h⟩ | ⟨h5, h⟩
  ·obtain rfl := sj h
   try simp only [↓Da, Ua, JM, Jf, J5, J2, J6, Je, J1w, *, ↓reduceIte, reduceEqDiff, reduceAdd, reduceLT, reduceMul]
   rfl
  ·try simp only [↓Da, Ua, JM, Jf, J5, J2, J6, Je, *, ↓reduceIte, reduceEqDiff, reduceAdd, reduceLT, reduceMul]
   rcases Jd h with ⟨h6, h⟩ | ⟨h6, h⟩
   ·obtain ⟨y7, h8, h⟩ := bi h
    have f9 := J8b (r := J7) h8
    try simp only [Nf] at f9
    try simp only [↓Da, Ua, JM, Jf, J5, J2, J6, Je, *, ↓reduceIte, reduceEqDiff, reduceAdd, reduceLT, reduceMul]
    rcases Jd h with ⟨h10, h⟩ | ⟨h10, h⟩
    ·obtain rfl := sj h
     try simp only [↓Da, Ua, JM, Jf, J5, J2, J6, Je, J1w, *, ↓reduceIte, reduceEqDiff, reduceAdd, reduceLT, reduceMul]
     rfl
    ·obtain ⟨r11, h12, h⟩ := bi h
     have f13 := J8u p h12
     try simp only [Nf] at f13
     try simp only [↓Da, Ua, JM, Jf, J5, J2, J6, Je, *, ↓reduceIte, reduceEqDiff, reduceAdd, reduceLT, reduceMul]
     rcases Jd h with ⟨h14, h⟩ | ⟨h14, h⟩
     ·obtain rfl := sj h
      try simp only [↓Da, Ua, JM, Jf, J5, J2, J6, Je, J1w, *, ↓reduceIte, reduceEqDiff, reduceAdd, reduceLT, reduceMul]
      rfl
     ·try simp only [↓Da, Ua, JM, Jf, J5, J2, J6, Je, *, ↓reduceIte, reduceEqDiff, reduceAdd, reduceLT, reduceMul]
      rcases Jd h with ⟨h15, h⟩ | ⟨h15, h⟩
      ·obtain rfl := sj h
       try simp only [↓Da, Ua, JM, Jf, J5, J2, J6, Je, J1w, *, ↓reduceIte, reduceEqDiff, reduceAdd, reduceLT, reduceMul]
       rfl
      ·obtain rfl := sj h
       try simp only [↓Da, Ua, JM, Jf, J5, J2, J6, Je, *, ↓reduceIte, reduceEqDiff, reduceAdd, reduceLT, reduceMul]
       rfl
   ·obtain ⟨r16, h17, h⟩ := bi h
    have f18 := J8u p h17
    try simp only [Nf] at f18
    try simp only [↓Da, Ua, JM, Jf, J5, J2, J6, Je, *, ↓reduceIte, reduceEqDiff, reduceAdd, reduceLT, reduceMul]
    rcases Jd h with ⟨h19, h⟩ | ⟨h19, h⟩
    ·obtain rfl := sj h
     try simp only [↓Da, Ua, JM, Jf, J5, J2, J6, Je, J1w, *, ↓reduceIte, reduceEqDiff, reduceAdd, reduceLT, reduceMul]
     rfl
    ·try simp only [↓Da, Ua, JM, Jf, J5, J2, J6, Je, *, ↓reduceIte, reduceEqDiff, reduceAdd, reduceLT, reduceMul]
     rcases Jd h with ⟨h20, h⟩ | ⟨h20, h⟩
     ·obtain rfl := sj h
      try simp only [↓Da, Ua, JM, Jf, J5, J2, J6, Je, J1w, *, ↓reduceIte, reduceEqDiff, reduceAdd, reduceLT, reduceMul]
      rfl
     ·obtain rfl := sj h
      try simp only [↓Da, Ua, JM, Jf, J5, J2, J6, Je, *, ↓reduceIte, reduceEqDiff, reduceAdd, reduceLT, reduceMul]
      rfl
 ·obtain ⟨o', h', rfl⟩ := mi h
  try simp only [↓Da, Ua, JM, Jf, J5, J2, J6, Je, *, ↓reduceIte, reduceEqDiff, reduceAdd, reduceLT, reduceMul]
  have e0 := Jgg p (B0 := (J4 b0)) h'
  exact e0
def J6U (x35 : Int) (b0 : T_api_Image) (s : Int) : Option (Bool) :=
 Ju (fun s => J2p x35 b0 s) s
theorem Jey {x35 : Int} {b0 : T_api_Image} {s : Int} {o : Bool} (h : J6U x35 b0 s = some o) :
  rk (J1 p) J1N 0 [.bl 0, .td 1 [2], .sq (.keep [] J39)] (X (J1 p) (.lp 1 [1, 35, 36] JM) ⟨[(1, .ptr 0 0), (35, .p (.i .i64 x35)), (36, .p (.i .i64 s))], [.box (List.map AV.p (J4 b0))]⟩) = J50 o := by
 have h0 : Ju (fun s => J2p x35 b0 s) s = some o := h
 exact J0T (P := fun (s : Int) (o : Bool) => rk (J1 p) J1N 0 [.bl 0, .td 1 [2], .sq (.keep [] J39)] (X (J1 p) (.lp 1 [1, 35, 36] JM) ⟨[(1, .ptr 0 0), (35, .p (.i .i64 x35)), (36, .p (.i .i64 s))], [.box (List.map AV.p (J4 b0))]⟩) = J50 o) (fun s r hs => by rw [J19]; exact JaF p hs) (fun s s1 r hs ih => by rw [J19]; exact (JaF p hs).trans ih) h0
def J0N (x0 : T_api_Image) : Option (Bool) :=
 if (decide (x0.ID < 1)) then
  some false
 else
  if (decide (x0.ID > 1073741824)) then
   some false
  else
   if (decide (x0.Pages < 1)) then
    some false
   else
    if (decide (x0.Pages > 64)) then
     some false
    else
     if (decide (((List.length x0.Copies : Nat) : Int) > x0.Pages)) then
      some false
     else
      J6U ((List.length x0.Copies : Nat) : Int) x0 0
theorem Jez {x0 : T_api_Image} {o : Bool} (h : J0N x0 = some o) :
  rk (J1 p) J1N 0 [] (X (J1 p) J11 ⟨[(0, .data (J4 x0))], []⟩) = J50 o := by
 unfold J0N at h
 rcases Jd h with ⟨h1, h⟩ | ⟨h1, h⟩
 ·obtain rfl := sj h
  try simp only [↓Da, Ua, J11, Jf, Je, J1w, *, ↓reduceIte, reduceEqDiff, reduceAdd, reduceLT, reduceMul]
  rfl
 ·try simp only [↓Da, Ua, J11, Jf, Je, *, ↓reduceIte, reduceEqDiff, reduceAdd, reduceLT, reduceMul]
  rcases Jd h with ⟨h2, h⟩ | ⟨h2, h⟩
  ·obtain rfl := sj h
   try simp only [↓Da, Ua, J11, Jf, Je, J1w, *, ↓reduceIte, reduceEqDiff, reduceAdd, reduceLT, reduceMul]
   rfl
  ·try simp only [↓Da, Ua, J11, Jf, Je, *, ↓reduceIte, reduceEqDiff, reduceAdd, reduceLT, reduceMul]
   rcases Jd h with ⟨h3, h⟩ | ⟨h3, h⟩
   ·obtain rfl := sj h
    try simp only [↓Da, Ua, J11, Jf, Je, J1w, *, ↓reduceIte, reduceEqDiff, reduceAdd, reduceLT, reduceMul]
    rfl
   ·try simp only [↓Da, Ua, J11, Jf, Je, *, ↓reduceIte, reduceEqDiff, reduceAdd, reduceLT, reduceMul]
    rcases Jd h with ⟨h4, h⟩ | ⟨h4, h⟩
    ·obtain rfl := sj h
     try simp only [↓Da, Ua, J11, Jf, Je, J1w, *, ↓reduceIte, reduceEqDiff, reduceAdd, reduceLT, reduceMul]
     rfl
    ·try simp only [↓Da, Ua, J11, Jf, Je, *, ↓reduceIte, reduceEqDiff, reduceAdd, reduceLT, reduceMul]
     rcases Jd h with ⟨h5, h⟩ | ⟨h5, h⟩
     ·obtain rfl := sj h
      try simp only [↓Da, Ua, J11, Jf, Je, J1w, *, ↓reduceIte, reduceEqDiff, reduceAdd, reduceLT, reduceMul]
      rfl
     ·try simp only [↓Da, Ua, J11, Jf, Je, *, ↓reduceIte, reduceEqDiff, reduceAdd, reduceLT, reduceMul]
      have e0 := Jey p h
      exact e0
theorem J9z {x0 : T_api_Image} {o : Bool} (h : J0N x0 = some o) : AF (J1 p) J2P [.data (J4 x0)] [] = J50 o :=
 (J14 (J1 p) (JiN p) rfl).trans (Jez p h)
theorem J7T {x0 : T_api_Image} {o : Bool} (h : J0N x0 = some o) : ∀ ws new st, (Jq (AF (J1 p)) J2P ([.data (J4 x0)], ws) 0 new).run st = some ⟨.p (.b o), ws⟩ := JE rfl (J9z p h) rfl
end
end Go.Am
end
section
namespace Go.Am
set_option maxRecDepth 8000
set_option maxHeartbeats 4000000
set_option linter.unusedSimpArgs false
set_option linter.unusedVariables false
noncomputable section
variable (p : FuncId → Option (List AV → List Blk → Option Res))
def J3K (x0 : List UInt8) (x1 : Int) : Option (T_api_Page × Int) :=
 if (decide (x1 < 0)) then
  some ((⟨0, 0, (Vector.replicate 16 (⟨false, []⟩ : J8))⟩ : T_api_Page), 1)
 else
  if (decide (x1 ≥ 64)) then
   some ((⟨0, 0, (Vector.replicate 16 (⟨false, []⟩ : J8))⟩ : T_api_Page), 1)
  else
   Option.bind (J8Z x0) fun r3 =>
   if ((r3.2 : Int) == 7) then
    Option.bind (JeT x1) fun r7 =>
    some (r7, 0)
   else
    if ((r3.2 : Int) == 0) then
     if ((r3.1.ID : Int) != x1) then
      some ((⟨0, 0, (Vector.replicate 16 (⟨false, []⟩ : J8))⟩ : T_api_Page), 6)
     else
      some (r3.1, r3.2)
    else
     some (r3.1, r3.2)
end
end Go.Am
end
section
end
section
namespace Go.Am
set_option maxRecDepth 8000
set_option linter.unusedSimpArgs false
set_option linter.unusedVariables false
noncomputable section
def Ja8 : List T_api_Copy → List UInt8 → Option (List UInt8)
 | [], s => some s
 | c :: r, s => Option.bind (J0i [] c.Page 2) fun b => Option.bind (J3e b c.Data) fun d => Option.bind (J2b d) fun f =>
  if s.length + f.length ≤ 140737488355328 then Ja8 r (s ++ f) else none
def J2g (x0 : T_api_Image) : Option (List UInt8 × Int) :=
 Option.bind (J0N x0) fun v =>
 if v then
  Option.bind (J0i [80, 77, 73, 77] x0.ID 4) fun h1 => Option.bind (J0i h1 x0.Pages 2) fun h2 => Option.bind (J0i h2 ((x0.Copies.length : Nat) : Int) 2) fun h3 => Option.bind (J2b h3) fun f =>
  if f.length ≤ 140737488355328 then Option.bind (Ja8 x0.Copies f) fun s => some (s, 0) else none
 else some ([], 43)
theorem Jmn {α β : Type} {r : α → β} (h : ∀ x y, r x = r y → x = y) : ∀ {a b : List α}, a.map r = b.map r → a = b
 | [], [], _ => rfl
 | [], _ :: _, e => by simp at e
 | _ :: _, [], e => by simp at e
 | x :: a, y :: b, e => by
  simp only [List.map_cons, List.cons.injEq] at e
  rw [h x y e.1, Jmn h e.2]
theorem Jp1 (x y : T_api_Copy) (h : J7 x = J7 y) : x = y := by
 cases x; cases y
 simp [J7, cat] at h
 simp [h]
theorem JnH (x y : T_api_Image) (h : J4 x = J4 y) : x = y := by
 cases x; cases y
 simp only [J4, cat, List.cons_append, List.nil_append, List.cons.injEq, PV.i.injEq, PV.sl.injEq, true_and, and_true] at h
 obtain ⟨h1, h2, h3⟩ := h
 rw [h1, h2, Jmn Jp1 h3]
open Classical in
def Jb2 : List AV → List Blk → Option Res := fun args blks =>
 if h : ∃ x o, args = [.data (J4 x)] ∧ J2g x = some o then some (.tup [.p (.s (Classical.choose (Classical.choose_spec h)).1), .p (.i .i64 (Classical.choose (Classical.choose_spec h)).2)], blks) else none
theorem Jm7 {args : List AV} {blks : List Blk} {r : Res} (h : Jb2 args blks = some r) : ∃ x o, args = [.data (J4 x)] ∧ J2g x = some o ∧ r = (.tup [.p (.s o.1), .p (.i .i64 o.2)], blks) := by
 unfold Jb2 at h
 split at h
 ·rename_i hx
  injection h with h
  have h2 := Classical.choose_spec (Classical.choose_spec hx)
  exact ⟨_, _, h2.1, h2.2, h.symm⟩
 ·cases h
theorem Jrh {x : T_api_Image} {o : List UInt8 × Int} (blks : List Blk) (h : J2g x = some o) : Jb2 [.data (J4 x)] blks = some (.tup [.p (.s o.1), .p (.i .i64 o.2)], blks) := by
 cases hr : Jb2 [.data (J4 x)] blks with
 | some r =>
  obtain ⟨x', o', h1, h2, h3⟩ := Jm7 hr
  simp only [List.cons.injEq, AV.data.injEq, and_true] at h1
  rw [JnH _ _ h1, h2] at h
  injection h with h
  rw [h3, h]
 | none =>
  unfold Jb2 at hr
  rw [dif_pos ⟨x, o, rfl, h⟩] at hr
  cases hr
abbrev PS := { p : FuncId → Option (List AV → List Blk → Option Res) // p J1a = some Jb2 }
theorem Jhn (p : PS) : J1 p J1a = some (.prim Jb2) := by
 show Jpa (lkF J1a fns) (lkF J1a Jgf) (lkF J1a JgE) (p.1 J1a) = _
 rw [p.2]
 rfl
theorem Jh6 (p : PS) {x0 : T_api_Image} {o : List UInt8 × Int} (h : J2g x0 = some o) : AF (J1 p) J1a [.data (J4 x0)] [] = some (.tup [.p (.s o.1), .p (.i .i64 o.2)], []) := by
 rw [JdT (Jhn p)]
 exact Jrh [] h
end
end Go.Am
end
section
namespace Go.Am
set_option maxRecDepth 8000
set_option maxHeartbeats 4000000
set_option linter.unusedSimpArgs false
set_option linter.unusedVariables false
noncomputable section
variable (p : PS)
def Jb9  (r : T_api_Image × Int) : Option Res := some (.tup [.data (J4 r.1), .p (.i .i64 r.2)], [])
def J4X (x1 : Int) (x2 : List UInt8) (x10 b0_0 b0_1 : Int) (b1 : T_api_Image) (b2 : T_api_Page) (l3 : List T_api_Copy) : Option (T_api_Image × Int) :=
 Option.bind (idx l3 x10) fun y1 =>
 Option.bind (some (List.set l3 (Int.toNat x10) (⟨x1, b2.LSN, x2⟩ : T_api_Copy))) fun m5 =>
 some ((⟨b0_0, b0_1, m5⟩ : T_api_Image), 0)
theorem Jcq {x1 : Int} {x2 : List UInt8} {x10 b0_0 b0_1 : Int} {b1 : T_api_Image} {b2 : T_api_Page} {l3 : List T_api_Copy} {o : T_api_Image × Int} (h : J4X x1 x2 x10 b0_0 b0_1 b1 b2 l3 = some o) :
  rk (J1 p) J5E 0 [] (X (J1 p) J9q ⟨[(1, .p (.i .i64 x1)), (2, .p (.s x2)), (3, .ptr 0 0), (6, .ptr 1 0), (8, .ptr 2 0), (10, .p (.i .i64 x10))], [.box [.p (.i .i64 b0_0), .p (.i .i64 b0_1), .slr 3 0 (List.length l3)], .box (List.map AV.p (J4 b1)), .box (List.map AV.p (J3 b2)), .arr true 3 (List.map J7 l3)]⟩) = Jb9 o := by
 unfold J4X at h
 obtain ⟨y1, h2, h⟩ := bi h
 have f3 := JfE (r := J7) h2
 try simp only [Nf, J0D, J0Q, J0R] at f3
 have f4 : (0 ≤ (x10 : Int) ∧ (x10 : Int) < (((List.length l3) : Nat) : Int)) = True := eq_true (by have e0 := Jhb h2; (try simp only [List.length_cons, List.length_nil, Nat.zero_add] at e0); omega)
 obtain ⟨m5, h6, h⟩ := bi h
 have f7 : List.set (List.map J7 l3) (Int.toNat x10) (J7 (⟨x1, b2.LSN, x2⟩ : T_api_Copy)) = List.map J7 m5 := by
  rw [← Option.some.inj h6, List.map_set]
 try simp only [Nf, J0D, J0Q, J0R] at f7
 have g8 : List.length m5 = List.length l3 := by rw [← Option.some.inj h6, List.length_set]
 obtain rfl := sj h
 try simp only [↓Da, Ua, J9q, J0D, J0Q, J2, J6, J0R, J7B, *, ↓reduceIte, reduceEqDiff, reduceAdd, reduceLT, reduceMul]
 rfl
def J4C (x0 : T_api_Image) (x1 : Int) (x2 : List UInt8) : Option (T_api_Image × Int) :=
 Option.bind (J0N x0) fun r1 =>
 if r1 then
  if (decide (x1 < 0)) then
   some ((⟨0, 0, ([] : List T_api_Copy)⟩ : T_api_Image), 1)
  else
   if (decide (x1 ≥ x0.Pages)) then
    some ((⟨0, 0, ([] : List T_api_Copy)⟩ : T_api_Image), 1)
   else
    Option.bind (J0j x2 x1) fun r7 =>
    if ((r7.2 : Int) != 0) then
     some ((⟨0, 0, ([] : List T_api_Copy)⟩ : T_api_Image), r7.2)
    else
     Option.bind (J3z x0 x1) fun r11 =>
     Option.bind (J13 x0.Copies) fun r14 =>
     if r11.2 then
      J4X x1 x2 r11.1 x0.ID x0.Pages (⟨0, 0, ([] : List T_api_Copy)⟩ : T_api_Image) r7.1 r14
     else
      Option.bind (J0X r14 r11.1 ([(⟨0, 0, ([] : List UInt8)⟩ : T_api_Copy)] : List T_api_Copy)) fun r18 =>
      J4X x1 x2 r11.1 x0.ID x0.Pages (⟨0, 0, ([] : List T_api_Copy)⟩ : T_api_Image) r7.1 r18
 else
  some ((⟨0, 0, ([] : List T_api_Copy)⟩ : T_api_Image), 43)
theorem Jgm {x0 : T_api_Image} {x1 : Int} {x2 : List UInt8} {o : T_api_Image × Int} (h : J4C x0 x1 x2 = some o) :
  rk (J1 p) J5E 0 [] (X (J1 p) J1k ⟨[(0, .data (J4 x0)), (1, .p (.i .i64 x1)), (2, .p (.s x2))], []⟩) = Jb9 o := by
 unfold J4C at h
 obtain ⟨r1, h2, h⟩ := bi h
 have f3 := J7T p h2
 try simp only [Nf, J0D, J0Q, J0R] at f3
 try simp only [↓Da, Ua, J1k, J0D, J0Q, J2, J6, J0R, *, ↓reduceIte, reduceEqDiff, reduceAdd, reduceLT, reduceMul]
 rcases Jd h with ⟨h4, h⟩ | ⟨h4, h⟩
 ·try simp only [↓Da, Ua, J1k, J0D, J0Q, J2, J6, J0R, *, ↓reduceIte, reduceEqDiff, reduceAdd, reduceLT, reduceMul]
  rcases Jd h with ⟨h5, h⟩ | ⟨h5, h⟩
  ·obtain rfl := sj h
   try simp only [↓Da, Ua, J1k, J0D, J0Q, J2, J6, J0R, J7B, *, ↓reduceIte, reduceEqDiff, reduceAdd, reduceLT, reduceMul]
   rfl
  ·try simp only [↓Da, Ua, J1k, J0D, J0Q, J2, J6, J0R, *, ↓reduceIte, reduceEqDiff, reduceAdd, reduceLT, reduceMul]
   rcases Jd h with ⟨h6, h⟩ | ⟨h6, h⟩
   ·obtain rfl := sj h
    try simp only [↓Da, Ua, J1k, J0D, J0Q, J2, J6, J0R, J7B, *, ↓reduceIte, reduceEqDiff, reduceAdd, reduceLT, reduceMul]
    rfl
   ·obtain ⟨r7, h8, h⟩ := bi h
    have f9 := J8u p h8
    try simp only [Nf, J0D, J0Q, J0R] at f9
    try simp only [↓Da, Ua, J1k, J0D, J0Q, J2, J6, J0R, *, ↓reduceIte, reduceEqDiff, reduceAdd, reduceLT, reduceMul]
    rcases Jd h with ⟨h10, h⟩ | ⟨h10, h⟩
    ·obtain rfl := sj h
     try simp only [↓Da, Ua, J1k, J0D, J0Q, J2, J6, J0R, J7B, *, ↓reduceIte, reduceEqDiff, reduceAdd, reduceLT, reduceMul]
     rfl
    ·obtain ⟨r11, h12, h⟩ := bi h
     have f13 := JcO p h12
     try simp only [Nf, J0D, J0Q, J0R] at f13
     obtain ⟨r14, h15, h⟩ := bi h
     have f16 : ∀ ws new s, (Jq (AF (J1 p)) J0s ([.p (.sl 3 (List.map J7 x0.Copies))], ws) 1 new).run s = some ⟨.slr new 0 (List.length r14), ws ++ [(new, .arr true 3 (List.map J7 r14))]⟩ := Jnc rfl (J7Z p h15)
     try simp only [Nf, J0D, J0Q, J0R] at f16
     try simp only [↓Da, Ua, J1k, J0D, J0Q, J2, J6, J0R, *, ↓reduceIte, reduceEqDiff, reduceAdd, reduceLT, reduceMul]
     rcases Jd h with ⟨h17, h⟩ | ⟨h17, h⟩
     ·try try rw [h4] at h17
      try simp only [↓Da, Ua, J1k, J0D, J0Q, J2, J6, J0R, *, ↓reduceIte, reduceEqDiff, reduceAdd, reduceLT, reduceMul]
      have e0 := Jcq p h
      first | exact e0 | (simp only [*] at e0; exact e0)
     ·try try rw [h4] at h17
      obtain ⟨r18, h19, h⟩ := bi h
      have f20 : ∀ ws new s, (J6d ws 3).run s = some (.arr true 3 (List.map J7 r14)) → (J6d ws 4).run s = some (.arr true 3 (List.map J7 ([(⟨0, 0, ([] : List UInt8)⟩ : T_api_Copy)] : List T_api_Copy))) → (J2E (AF (J1 p)) J0U ([.slr 3 0 (List.length r14), .p (.i .i64 r11.1), .slr 4 0 1], ws) 0 new).run s = some ⟨.slr 3 0 (List.length r18), ws ++ [(3, .arr true 3 (List.map J7 r18)), (4, .arr true 3 (List.map J7 ([(⟨0, 0, ([] : List UInt8)⟩ : T_api_Copy)] : List T_api_Copy)))]⟩ := fun ws new s h1 h2 => JlN rfl rfl (by first | rfl | simp [ren.renL, ren, J34]) (J7I p h19) (fun _ => rfl) ws new s h1 h2
      try simp only [Nf, J0D, J0Q, J0R] at f20
      try simp only [↓Da, Ua, J1k, J0D, J0Q, J2, J6, J0R, *, ↓reduceIte, reduceEqDiff, reduceAdd, reduceLT, reduceMul]
      have e0 := Jcq p h
      first | exact e0 | (simp only [*] at e0; exact e0)
 ·obtain rfl := sj h
  try simp only [↓Da, Ua, J1k, J0D, J0Q, J2, J6, J0R, J7B, *, ↓reduceIte, reduceEqDiff, reduceAdd, reduceLT, reduceMul]
  rfl
theorem Jll {x0 : T_api_Image} {x1 : Int} {x2 : List UInt8} {o : T_api_Image × Int} (h : J4C x0 x1 x2 = some o) : AF (J1 p) J6G [.data (J4 x0), .p (.i .i64 x1), .p (.s x2)] [] = Jb9 o :=
 (J14 (J1 p) (Jli p) rfl).trans (Jgm p h)
theorem Jlv {x0 : T_api_Image} {x1 : Int} {x2 : List UInt8} {o : T_api_Image × Int} (h : J4C x0 x1 x2 = some o) : ∀ ws new st, (Jq (AF (J1 p)) J6G ([.data (J4 x0), .p (.i .i64 x1), .p (.s x2)], ws) 0 new).run st = some ⟨.tup [.data (J4 o.1), .p (.i .i64 o.2)], ws⟩ := JE rfl (Jll p h) rfl
def Jds  (r : T_api_Copy × Bool) : Option Res := some (.tup [.data (J7 r.1), .p (.b r.2)], [])
def J4H (x0 : T_api_Image) (x1 : Int) : Option (T_api_Copy × Bool) :=
 Option.bind (J0N x0) fun r1 =>
 if r1 then
  if (decide (x1 < 0)) then
   some ((⟨0, 0, ([] : List UInt8)⟩ : T_api_Copy), false)
  else
   if (decide (x1 ≥ x0.Pages)) then
    some ((⟨0, 0, ([] : List UInt8)⟩ : T_api_Copy), false)
   else
    Option.bind (J3z x0 x1) fun r7 =>
    if r7.2 then
     Option.bind (idx x0.Copies r7.1) fun y11 =>
     some (y11, true)
    else
     some ((⟨0, 0, ([] : List UInt8)⟩ : T_api_Copy), false)
 else
  some ((⟨0, 0, ([] : List UInt8)⟩ : T_api_Copy), false)
theorem JfT {x0 : T_api_Image} {x1 : Int} {o : T_api_Copy × Bool} (h : J4H x0 x1 = some o) :
  rk (J1 p) J5P 0 [] (X (J1 p) J1y ⟨[(0, .data (J4 x0)), (1, .p (.i .i64 x1))], []⟩) = Jds o := by
 unfold J4H at h
 obtain ⟨r1, h2, h⟩ := bi h
 have f3 := J7T p h2
 try simp only [Nf] at f3
 try simp only [↓Da, Ua, J1y, Jf, Je, *, ↓reduceIte, reduceEqDiff, reduceAdd, reduceLT, reduceMul]
 rcases Jd h with ⟨h4, h⟩ | ⟨h4, h⟩
 ·try simp only [↓Da, Ua, J1y, Jf, Je, *, ↓reduceIte, reduceEqDiff, reduceAdd, reduceLT, reduceMul]
  rcases Jd h with ⟨h5, h⟩ | ⟨h5, h⟩
  ·obtain rfl := sj h
   try simp only [↓Da, Ua, J1y, Jf, Je, J6Y, *, ↓reduceIte, reduceEqDiff, reduceAdd, reduceLT, reduceMul]
   rfl
  ·try simp only [↓Da, Ua, J1y, Jf, Je, *, ↓reduceIte, reduceEqDiff, reduceAdd, reduceLT, reduceMul]
   rcases Jd h with ⟨h6, h⟩ | ⟨h6, h⟩
   ·obtain rfl := sj h
    try simp only [↓Da, Ua, J1y, Jf, Je, J6Y, *, ↓reduceIte, reduceEqDiff, reduceAdd, reduceLT, reduceMul]
    rfl
   ·obtain ⟨r7, h8, h⟩ := bi h
    have f9 := JcO p h8
    try simp only [Nf] at f9
    try simp only [↓Da, Ua, J1y, Jf, Je, *, ↓reduceIte, reduceEqDiff, reduceAdd, reduceLT, reduceMul]
    rcases Jd h with ⟨h10, h⟩ | ⟨h10, h⟩
    ·obtain ⟨y11, h12, h⟩ := bi h
     have f13 := J8b (r := J7) h12
     try simp only [Nf] at f13
     obtain rfl := sj h
     try simp only [↓Da, Ua, J1y, Jf, Je, J6Y, *, ↓reduceIte, reduceEqDiff, reduceAdd, reduceLT, reduceMul]
     rfl
    ·obtain rfl := sj h
     try simp only [↓Da, Ua, J1y, Jf, Je, J6Y, *, ↓reduceIte, reduceEqDiff, reduceAdd, reduceLT, reduceMul]
     rfl
 ·obtain rfl := sj h
  try simp only [↓Da, Ua, J1y, Jf, Je, J6Y, *, ↓reduceIte, reduceEqDiff, reduceAdd, reduceLT, reduceMul]
  rfl
theorem JjH {x0 : T_api_Image} {x1 : Int} {o : T_api_Copy × Bool} (h : J4H x0 x1 = some o) : AF (J1 p) J64 [.data (J4 x0), .p (.i .i64 x1)] [] = Jds o :=
 (J14 (J1 p) (JkR p) rfl).trans (JfT p h)
theorem JkU {x0 : T_api_Image} {x1 : Int} {o : T_api_Copy × Bool} (h : J4H x0 x1 = some o) : ∀ ws new st, (Jq (AF (J1 p)) J64 ([.data (J4 x0), .p (.i .i64 x1)], ws) 0 new).run st = some ⟨.tup [.data (J7 o.1), .p (.b o.2)], ws⟩ := JE rfl (JjH p h) rfl
def JcJ  (r : Bool) : Option Res := some (.p (.b r), [])
def J4j (x0 : T_api_Image) : Option (Bool) :=
 Option.bind (J0N x0) fun r1 =>
 if r1 then
  some ((((List.length x0.Copies : Nat) : Int) : Int) == x0.Pages)
 else
  some false
theorem Jeu {x0 : T_api_Image} {o : Bool} (h : J4j x0 = some o) :
  rk (J1 p) J5c 0 [] (X (J1 p) J4k ⟨[(0, .data (J4 x0))], []⟩) = JcJ o := by
 unfold J4j at h
 obtain ⟨r1, h2, h⟩ := bi h
 have f3 := J7T p h2
 try simp only [Nf] at f3
 try simp only [↓Da, Ua, J4k, Jf, Je, *, ↓reduceIte, reduceEqDiff, reduceAdd, reduceLT, reduceMul]
 rcases Jd h with ⟨h4, h⟩ | ⟨h4, h⟩
 ·obtain rfl := sj h
  try simp only [↓Da, Ua, J4k, Jf, Je, Jct, *, ↓reduceIte, reduceEqDiff, reduceAdd, reduceLT, reduceMul]
  rfl
 ·obtain rfl := sj h
  try simp only [↓Da, Ua, J4k, Jf, Je, Jct, *, ↓reduceIte, reduceEqDiff, reduceAdd, reduceLT, reduceMul]
  rfl
theorem Jjl {x0 : T_api_Image} {o : Bool} (h : J4j x0 = some o) : AF (J1 p) J4a [.data (J4 x0)] [] = JcJ o :=
 (J14 (J1 p) (Jjs p) rfl).trans (Jeu p h)
theorem JiA {x0 : T_api_Image} {o : Bool} (h : J4j x0 = some o) : ∀ ws new st, (Jq (AF (J1 p)) J4a ([.data (J4 x0)], ws) 0 new).run st = some ⟨.p (.b o), ws⟩ := JE rfl (Jjl p h) rfl
def Jg6  : Option (Bool) :=
 some true
def J5B (b0 : T_api_Image) (x3 : Int) : Option (((Int) ⊕ (Bool))) :=
 if (decide (x3 < ((List.length b0.Copies : Nat) : Int))) then
  Option.bind (idx b0.Copies x3) fun y2 =>
  if (decide (y2.Page < 0)) then
   some (.inr false)
  else
   if (decide (y2.Page ≥ b0.Pages)) then
    some (.inr false)
   else
    if (decide (x3 > 0)) then
     Option.bind (idx b0.Copies (IntKind.wrap .i64 (x3 - 1))) fun y8 =>
     if (decide (y8.Page ≥ y2.Page)) then
      some (.inr false)
     else
      Option.bind (J3K y2.Data y2.Page) fun r12 =>
      if ((r12.2 : Int) != 0) then
       some (.inr false)
      else
       if ((r12.1.LSN : Int) != y2.LSN) then
        some (.inr false)
       else
        some (.inl (IntKind.wrap .i64 (x3 + 1)))
    else
     Option.bind (J3K y2.Data y2.Page) fun r17 =>
     if ((r17.2 : Int) != 0) then
      some (.inr false)
     else
      if ((r17.1.LSN : Int) != y2.LSN) then
       some (.inr false)
      else
       some (.inl (IntKind.wrap .i64 (x3 + 1)))
 else
  Option.map (fun o => .inr o) (Jg6)
def J8w (b0 : T_api_Image) (s : Int) : Option (Bool) :=
 Ju (fun s => J5B b0 s) s
def J7K (x0 : T_api_Image) : Option (Bool) :=
 if (decide (x0.ID < 1)) then
  some false
 else
  if (decide (x0.ID > 1073741824)) then
   some false
  else
   if (decide (x0.Pages < 1)) then
    some false
   else
    if (decide (x0.Pages > 64)) then
     some false
    else
     J8w x0 0
def Jcy (x0 : T_api_Image) : Option (Bool) :=
 Option.bind (J7K x0) fun r1 =>
 if r1 then
  some ((((List.length x0.Copies : Nat) : Int) : Int) == x0.Pages)
 else
  some false
def J5d (x1 : Int) (x12 : Bool) (x13 : Int) (b0 : T_api_Image) (l1 : List T_api_Copy) (b2_0 b2_1 : Int) (b4 : T_api_Copy) (l5 : List T_api_Copy) (b7_0 b7_1 : Int) : Option (((Bool × Int × (List T_api_Copy)) ⊕ (T_api_Image × Int))) :=
 some (.inl (x12, (IntKind.wrap .i64 (x13 + 1)), l5))
def J4W (x1 : Int) (x12 : Bool) (x13 : Int) (b0 : T_api_Image) (l1 : List T_api_Copy) (b2_0 b2_1 : Int) (b4 : T_api_Copy) (l5 : List T_api_Copy) (b7_0 b7_1 : Int) : Option (((Bool × Int × (List T_api_Copy)) ⊕ (T_api_Image × Int))) :=
 Option.bind (idx b0.Copies x13) fun y1 =>
 if ((y1.Page : Int) != x1) then
  Option.bind (Jbc 32 l5 ([y1] : List T_api_Copy)) fun m5 =>
  J5d x1 x12 x13 b0 l1 b2_0 b2_1 b4 m5 b7_0 b7_1
 else
  J5d x1 x12 x13 b0 l1 b2_0 b2_1 b4 l5 b7_0 b7_1
def Jcu (l1 : List T_api_Copy) (b2_0 b2_1 : Int) (l5 : List T_api_Copy) (b7_0 b7_1 : Int) : Option (T_api_Image × Int) :=
 some ((⟨b7_0, b7_1, l5⟩ : T_api_Image), 0)
def Jcm (x12 : Bool) (l1 : List T_api_Copy) (b2_0 b2_1 : Int) (b4 : T_api_Copy) (l5 : List T_api_Copy) (b7_0 b7_1 : Int) : Option (T_api_Image × Int) :=
 if x12 then
  Jcu l1 b2_0 b2_1 l5 b7_0 b7_1
 else
  Option.bind (Jbc 32 l5 ([b4] : List T_api_Copy)) fun m2 =>
  Jcu l1 b2_0 b2_1 m2 b7_0 b7_1
def JcG (x1 : Int) (b0 : T_api_Image) (l1 : List T_api_Copy) (b2_0 b2_1 : Int) (b4 : T_api_Copy) (b7_0 b7_1 : Int) (x12 : Bool) (x13 : Int) (l5 : List T_api_Copy) : Option (((Bool × Int × (List T_api_Copy)) ⊕ (T_api_Image × Int))) :=
 if (decide (x13 < ((List.length b0.Copies : Nat) : Int))) then
  if x12 then
   J4W x1 true x13 b0 l1 b2_0 b2_1 b4 l5 b7_0 b7_1
  else
   Option.bind (idx b0.Copies x13) fun y3 =>
   if (decide (y3.Page ≥ x1)) then
    Option.bind (Jbc 32 l5 ([b4] : List T_api_Copy)) fun m7 =>
    J4W x1 true x13 b0 l1 b2_0 b2_1 b4 m7 b7_0 b7_1
   else
    J4W x1 false x13 b0 l1 b2_0 b2_1 b4 l5 b7_0 b7_1
 else
  Option.map (fun o => .inr o) (Jcm x12 l1 b2_0 b2_1 b4 l5 b7_0 b7_1)
def J9w (x1 : Int) (b0 : T_api_Image) (l1 : List T_api_Copy) (b2_0 b2_1 : Int) (b4 : T_api_Copy) (b7_0 b7_1 : Int) (s : Bool × Int × (List T_api_Copy)) : Option (T_api_Image × Int) :=
 Ju (fun s => JcG x1 b0 l1 b2_0 b2_1 b4 b7_0 b7_1 s.1 s.2.1 s.2.2) s
def JaX (x0 : T_api_Image) (x1 : Int) (x2 : List UInt8) : Option (T_api_Image × Int) :=
 Option.bind (J7K x0) fun r1 =>
 if r1 then
  if (decide (x1 < 0)) then
   some ((⟨0, 0, ([] : List T_api_Copy)⟩ : T_api_Image), 1)
  else
   if (decide (x1 ≥ x0.Pages)) then
    some ((⟨0, 0, ([] : List T_api_Copy)⟩ : T_api_Image), 1)
   else
    Option.bind (J3K x2 x1) fun r7 =>
    if ((r7.2 : Int) != 0) then
     some ((⟨0, 0, ([] : List T_api_Copy)⟩ : T_api_Image), r7.2)
    else
     J9w x1 x0 ([] : List T_api_Copy) 0 0 (⟨x1, r7.1.LSN, x2⟩ : T_api_Copy) x0.ID x0.Pages (false, 0, ([] : List T_api_Copy))
 else
  some ((⟨0, 0, ([] : List T_api_Copy)⟩ : T_api_Image), 43)
def JcL  (r : Bool) : Option Res := some (.p (.b r), [])
def J4e  : Option (Bool) :=
 Option.bind (J2g (⟨1, 1, ([] : List T_api_Copy)⟩ : T_api_Image)) fun r1 =>
 if ((r1.2 : Int) == 0) then
  if ((((List.length r1.1 : Nat) : Int) : Int) == 20) then
   Option.bind (J0N (⟨1, 1, ([] : List T_api_Copy)⟩ : T_api_Image)) fun r6 =>
   some r6
  else
   some false
 else
  some false
theorem JeB  {o : Bool} (h : J4e = some o) :
  rk (J1 p) J4Y 0 [] (X (J1 p) J2S ⟨[], []⟩) = JcL o := by
 unfold J4e at h
 obtain ⟨r1, h2, h⟩ := bi h
 have f3 : ∀ ws new s, (Jq (AF (J1 p)) J1a ([.data (J4 (⟨1, 1, ([] : List T_api_Copy)⟩ : T_api_Image))], ws) 0 new).run s = some ⟨.tup [.p (.s r1.1), .p (.i .i64 r1.2)], ws⟩ := JE rfl (Jh6 p h2) rfl
 try simp only [Nf] at f3
 try simp only [↓Da, Ua, J2S, Jf, Je, *, ↓reduceIte, reduceEqDiff, reduceAdd, reduceLT, reduceMul]
 rcases Jd h with ⟨h4, h⟩ | ⟨h4, h⟩
 ·have h4n : ((r1.2 : Int) != 0) = false := by rw [bne, h4]; rfl
  try simp only [↓Da, Ua, J2S, Jf, Je, *, ↓reduceIte, reduceEqDiff, reduceAdd, reduceLT, reduceMul]
  rcases Jd h with ⟨h5, h⟩ | ⟨h5, h⟩
  ·have h5n : ((((List.length r1.1 : Nat) : Int) : Int) != 20) = false := by rw [bne, h5]; rfl
   obtain ⟨r6, h7, h⟩ := bi h
   have f8 := J7T p h7
   try simp only [Nf] at f8
   obtain rfl := sj h
   try simp only [↓Da, Ua, J2S, Jf, Je, J9t, *, ↓reduceIte, reduceEqDiff, reduceAdd, reduceLT, reduceMul]
   rfl
  ·have h5n : ((((List.length r1.1 : Nat) : Int) : Int) != 20) = true := by rw [bne, h5]; rfl
   obtain rfl := sj h
   try simp only [↓Da, Ua, J2S, Jf, Je, J9t, *, ↓reduceIte, reduceEqDiff, reduceAdd, reduceLT, reduceMul]
   rfl
 ·have h4n : ((r1.2 : Int) != 0) = true := by rw [bne, h4]; rfl
  obtain rfl := sj h
  try simp only [↓Da, Ua, J2S, Jf, Je, J9t, *, ↓reduceIte, reduceEqDiff, reduceAdd, reduceLT, reduceMul]
  rfl
theorem JiK  {o : Bool} (h : J4e = some o) : AF (J1 p) J5b [] [] = JcL o :=
 (J14 (J1 p) (Jjr p) rfl).trans (JeB p h)
theorem Jjg  {o : Bool} (h : J4e = some o) : ∀ ws new st, (Jq (AF (J1 p)) J5b ([], ws) 0 new).run st = some ⟨.p (.b o), ws⟩ := JE rfl (JiK p h) rfl
def J2y  (r : Bool) : Option Res := some (.p (.b r), [])
def J25  (o : (Int × T_pagemenddraw_Codes × T_api_Image × (List Bool)) ⊕ (Bool)) : Option Res := match o with
 | .inl s => rk (J1 p) JJ 0 [.bl 0, .td 3 [4], .sq (.keep [] JU)] (X (J1 p) (.lp 3 [5, 6, 7, 8] JI) ⟨[(5, .ptr 0 0), (6, .ptr 1 0), (7, .slr 2 0 (List.length s.2.2.2)), (8, .p (.i .i64 s.1))], [.box (List.map AV.p (J0 s.2.1)), .box (List.map AV.p (J4 s.2.2.1)), .arr true 1 (List.map r_b s.2.2.2)]⟩)
 | .inr o => J2y o
def J89 (x8 : Int) (b0 : T_pagemenddraw_Codes) (b1 : T_api_Image) (l2 : List Bool) (B3 : List PV) (o : (Int × Int) ⊕ (((Int × T_pagemenddraw_Codes × T_api_Image × (List Bool)) ⊕ (Bool)))) : Option Res := match o with
 | .inl s => rk (J1 p) JJ 0 [.bl 2, .td 4 [4, 5, 6, 7, 8, 14], .sq (.keep [5, 6, 7, 8, 14] J05), .bl 1, .td 3 [4, 5, 6, 7, 8], .sq (.keep [5, 6, 7, 8] J0H), .lo 3 [5, 6, 7, 8] JI, .bl 0, .td 3 [4], .sq (.keep [] JU)] (X (J1 p) (.lp 4 [5, 6, 7, 8, 14, 15] J01) ⟨[(5, .ptr 0 0), (6, .ptr 1 0), (7, .slr 2 0 (List.length l2)), (8, .p (.i .i64 x8)), (14, .p (.i .i64 s.1)), (15, .p (.i .i64 s.2))], [.box (List.map AV.p (J0 b0)), .box (List.map AV.p (J4 b1)), .arr true 1 (List.map r_b l2), .box (List.map AV.p B3)]⟩)
 | .inr o => (J25 p) o
def J32 (x8 x14 x15 : Int) (b0 : T_pagemenddraw_Codes) (b1 : T_api_Image) (l2 : List Bool) : Option (((Int × Int) ⊕ (((Int × T_pagemenddraw_Codes × T_api_Image × (List Bool)) ⊕ (Bool))))) :=
 some (.inl (x14, (IntKind.wrap .i64 (x15 + 1))))
theorem J8c {x8 x14 x15 : Int} {b0 : T_pagemenddraw_Codes} {b1 : T_api_Image} {l2 : List Bool} {B3 : List PV} {o : ((Int × Int) ⊕ (((Int × T_pagemenddraw_Codes × T_api_Image × (List Bool)) ⊕ (Bool))))} (h : J32 x8 x14 x15 b0 b1 l2 = some o) :
  rk (J1 p) JJ 0 [.lo 4 [5, 6, 7, 8, 14, 15] J01, .bl 2, .td 4 [4, 5, 6, 7, 8, 14], .sq (.keep [5, 6, 7, 8, 14] J05), .bl 1, .td 3 [4, 5, 6, 7, 8], .sq (.keep [5, 6, 7, 8] J0H), .lo 3 [5, 6, 7, 8] JI, .bl 0, .td 3 [4], .sq (.keep [] JU)] (X (J1 p) J67 ⟨[(5, .ptr 0 0), (6, .ptr 1 0), (7, .slr 2 0 (List.length l2)), (8, .p (.i .i64 x8)), (14, .p (.i .i64 x14)), (15, .p (.i .i64 x15))], [.box (List.map AV.p (J0 b0)), .box (List.map AV.p (J4 b1)), .arr true 1 (List.map r_b l2), .box (List.map AV.p B3)]⟩) = (J89 p x8 b0 b1 l2 B3) o := by
 unfold J32 at h
 obtain rfl := sj h
 try simp only [↓Da, Ua, J67, ↓reduceIte, reduceEqDiff, reduceAdd, reduceLT, reduceMul]
 rfl
def J41 (x8 : Int) (b0 : T_pagemenddraw_Codes) (b1 : T_api_Image) (l2 : List Bool) : Option (((Int × T_pagemenddraw_Codes × T_api_Image × (List Bool)) ⊕ (Bool))) :=
 some (.inl ((IntKind.wrap .i64 (x8 - 1)), b0, b1, l2))
theorem Jbz {x8 : Int} {b0 : T_pagemenddraw_Codes} {b1 : T_api_Image} {l2 : List Bool} {o : ((Int × T_pagemenddraw_Codes × T_api_Image × (List Bool)) ⊕ (Bool))} (h : J41 x8 b0 b1 l2 = some o) :
  rk (J1 p) JJ 0 [.lo 3 [5, 6, 7, 8] JI, .bl 0, .td 3 [4], .sq (.keep [] JU)] (X (J1 p) J0H ⟨[(5, .ptr 0 0), (6, .ptr 1 0), (7, .slr 2 0 (List.length l2)), (8, .p (.i .i64 x8))], [.box (List.map AV.p (J0 b0)), .box (List.map AV.p (J4 b1)), .arr true 1 (List.map r_b l2)]⟩) = (J25 p) o := by
 unfold J41 at h
 obtain rfl := sj h
 try simp only [↓Da, Ua, J0H, ↓reduceIte, reduceEqDiff, reduceAdd, reduceLT, reduceMul]
 rfl
def J42 (x8 x14 : Int) (b0 : T_pagemenddraw_Codes) (b1 : T_api_Image) (l2 : List Bool) : Option (((Int × T_pagemenddraw_Codes × T_api_Image × (List Bool)) ⊕ (Bool))) :=
 Option.bind (J4j b1) fun r1 =>
 if (r1 == ((x14 : Int) == b1.Pages)) then
  if ((((List.length b1.Copies : Nat) : Int) : Int) != x14) then
   some (.inr false)
  else
   J41 x8 b0 b1 l2
 else
  some (.inr false)
theorem JbA {x8 x14 : Int} {b0 : T_pagemenddraw_Codes} {b1 : T_api_Image} {l2 : List Bool} {B3 : List PV} {o : ((Int × T_pagemenddraw_Codes × T_api_Image × (List Bool)) ⊕ (Bool))} (h : J42 x8 x14 b0 b1 l2 = some o) :
  rk (J1 p) JJ 0 [.bl 1, .td 3 [4, 5, 6, 7, 8], .sq (.keep [5, 6, 7, 8] J0H), .lo 3 [5, 6, 7, 8] JI, .bl 0, .td 3 [4], .sq (.keep [] JU)] (X (J1 p) J05 ⟨[(5, .ptr 0 0), (6, .ptr 1 0), (7, .slr 2 0 (List.length l2)), (8, .p (.i .i64 x8)), (14, .p (.i .i64 x14))], [.box (List.map AV.p (J0 b0)), .box (List.map AV.p (J4 b1)), .arr true 1 (List.map r_b l2), .box (List.map AV.p B3)]⟩) = (J25 p) o := by
 unfold J42 at h
 obtain ⟨r1, h2, h⟩ := bi h
 have f3 := JiA p h2
 try simp only [Nf] at f3
 have f4 : ∀ ws k new s, Ja ((Jq (AF (J1 p)) J4a ([.data (J4 b1)], ws) k new).reads s) = [] := J0V rfl
 try simp only [Nf] at f4
 try simp only [↓Da, Ua, Ra, J05, Jf, Je, *, ↓reduceIte, reduceEqDiff, reduceAdd, reduceLT, reduceMul, Nat.reduceBEq]
 rcases Jd h with ⟨h5, h⟩ | ⟨h5, h⟩
 ·try simp only [↓Da, Ua, Ra, J05, Jf, Je, *, ↓reduceIte, reduceEqDiff, reduceAdd, reduceLT, reduceMul, Nat.reduceBEq]
  rcases Jd h with ⟨h6, h⟩ | ⟨h6, h⟩
  ·obtain rfl := sj h
   try simp only [↓Da, Ua, Ra, J05, Jf, Je, J2w, *, ↓reduceIte, reduceEqDiff, reduceAdd, reduceLT, reduceMul, Nat.reduceBEq]
   rfl
  ·try simp only [↓Da, Ua, Ra, J05, Jf, Je, *, ↓reduceIte, reduceEqDiff, reduceAdd, reduceLT, reduceMul, Nat.reduceBEq]
   have e0 := Jbz p h
   exact e0
 ·obtain rfl := sj h
  try simp only [↓Da, Ua, Ra, J05, Jf, Je, J2w, *, ↓reduceIte, reduceEqDiff, reduceAdd, reduceLT, reduceMul, Nat.reduceBEq]
  rfl
def J33 (x8 : Int) (b0 : T_pagemenddraw_Codes) (b1 : T_api_Image) (l2 : List Bool) (x14 x15 : Int) : Option (((Int × Int) ⊕ (((Int × T_pagemenddraw_Codes × T_api_Image × (List Bool)) ⊕ (Bool))))) :=
 if (decide (x15 < b1.Pages)) then
  Option.bind (J4H b1 x15) fun r2 =>
  Option.bind (idx l2 x15) fun y5 =>
  if (r2.2 == y5) then
   if y5 then
    J32 x8 (IntKind.wrap .i64 (x14 + 1)) x15 b0 b1 l2
   else
    J32 x8 x14 x15 b0 b1 l2
  else
   some (.inr (.inr false))
 else
  Option.map (fun o => .inr o) (J42 x8 x14 b0 b1 l2)
theorem J87 {x8 : Int} {b0 : T_pagemenddraw_Codes} {b1 : T_api_Image} {l2 : List Bool} {x14 x15 : Int} {B3 : List PV} {o : ((Int × Int) ⊕ (((Int × T_pagemenddraw_Codes × T_api_Image × (List Bool)) ⊕ (Bool))))} (h : J33 x8 b0 b1 l2 x14 x15 = some o) :
  rk (J1 p) JJ 0 [.lo 4 [5, 6, 7, 8, 14, 15] J01, .bl 2, .td 4 [4, 5, 6, 7, 8, 14], .sq (.keep [5, 6, 7, 8, 14] J05), .bl 1, .td 3 [4, 5, 6, 7, 8], .sq (.keep [5, 6, 7, 8] J0H), .lo 3 [5, 6, 7, 8] JI, .bl 0, .td 3 [4], .sq (.keep [] JU)] (X (J1 p) J01 ⟨[(5, .ptr 0 0), (6, .ptr 1 0), (7, .slr 2 0 (List.length l2)), (8, .p (.i .i64 x8)), (14, .p (.i .i64 x14)), (15, .p (.i .i64 x15))], [.box (List.map AV.p (J0 b0)), .box (List.map AV.p (J4 b1)), .arr true 1 (List.map r_b l2), .box (List.map AV.p B3)]⟩) = (J89 p x8 b0 b1 l2 B3) o := by
 unfold J33 at h
 rcases Jd h with ⟨h1, h⟩ | ⟨h1, h⟩
 ·obtain ⟨r2, h3, h⟩ := bi h
  have f4 := JkU p h3
  try simp only [Nf] at f4
  obtain ⟨y5, h6, h⟩ := bi h
  have f7 := JfE (r := r_b) h6
  try simp only [Nf] at f7
  have f8 : (0 ≤ (x15 : Int) ∧ (x15 : Int) < (((List.length l2) : Nat) : Int)) = True := eq_true (by have e0 := Jhb h6; (try simp only [List.length_cons, List.length_nil, Nat.zero_add] at e0); omega)
  try simp only [↓Da, Ua, J01, Jf, Je, *, ↓reduceIte, reduceEqDiff, reduceAdd, reduceLT, reduceMul]
  rcases Jd h with ⟨h9, h⟩ | ⟨h9, h⟩
  ·try simp only [↓Da, Ua, J01, Jf, Je, *, ↓reduceIte, reduceEqDiff, reduceAdd, reduceLT, reduceMul]
   rcases Jd h with ⟨h10, h⟩ | ⟨h10, h⟩
   ·try rw [h10] at h9
    try simp only [↓Da, Ua, J01, Jf, Je, *, ↓reduceIte, reduceEqDiff, reduceAdd, reduceLT, reduceMul]
    have e0 := J8c p (B3 := B3) h
    exact e0
   ·try rw [h10] at h9
    try simp only [↓Da, Ua, J01, Jf, Je, *, ↓reduceIte, reduceEqDiff, reduceAdd, reduceLT, reduceMul]
    have e0 := J8c p (B3 := B3) h
    exact e0
  ·obtain rfl := sj h
   try simp only [↓Da, Ua, J01, Jf, Je, J2w, *, ↓reduceIte, reduceEqDiff, reduceAdd, reduceLT, reduceMul]
   rfl
 ·obtain ⟨o', h', rfl⟩ := mi h
  try simp only [↓Da, Ua, J01, Jf, Je, *, ↓reduceIte, reduceEqDiff, reduceAdd, reduceLT, reduceMul]
  have e0 := JbA p (B3 := B3) h'
  exact e0
def J43 (x8 : Int) (b0 : T_pagemenddraw_Codes) (b1 : T_api_Image) (l2 : List Bool) (s : Int × Int) : Option (((Int × T_pagemenddraw_Codes × T_api_Image × (List Bool)) ⊕ (Bool))) :=
 Ju (fun s => J33 x8 b0 b1 l2 s.1 s.2) s
theorem Jav {x8 : Int} {b0 : T_pagemenddraw_Codes} {b1 : T_api_Image} {l2 : List Bool} {B3 : List PV} {s : Int × Int} {o : ((Int × T_pagemenddraw_Codes × T_api_Image × (List Bool)) ⊕ (Bool))} (h : J43 x8 b0 b1 l2 s = some o) :
  rk (J1 p) JJ 0 [.bl 2, .td 4 [4, 5, 6, 7, 8, 14], .sq (.keep [5, 6, 7, 8, 14] J05), .bl 1, .td 3 [4, 5, 6, 7, 8], .sq (.keep [5, 6, 7, 8] J0H), .lo 3 [5, 6, 7, 8] JI, .bl 0, .td 3 [4], .sq (.keep [] JU)] (X (J1 p) (.lp 4 [5, 6, 7, 8, 14, 15] J01) ⟨[(5, .ptr 0 0), (6, .ptr 1 0), (7, .slr 2 0 (List.length l2)), (8, .p (.i .i64 x8)), (14, .p (.i .i64 s.1)), (15, .p (.i .i64 s.2))], [.box (List.map AV.p (J0 b0)), .box (List.map AV.p (J4 b1)), .arr true 1 (List.map r_b l2), .box (List.map AV.p B3)]⟩) = (J25 p) o := by
 have h0 : Ju (fun s => J33 x8 b0 b1 l2 s.1 s.2) s = some o := h
 exact J0T (P := fun (s : Int × Int) (o : ((Int × T_pagemenddraw_Codes × T_api_Image × (List Bool)) ⊕ (Bool))) => rk (J1 p) JJ 0 [.bl 2, .td 4 [4, 5, 6, 7, 8, 14], .sq (.keep [5, 6, 7, 8, 14] J05), .bl 1, .td 3 [4, 5, 6, 7, 8], .sq (.keep [5, 6, 7, 8] J0H), .lo 3 [5, 6, 7, 8] JI, .bl 0, .td 3 [4], .sq (.keep [] JU)] (X (J1 p) (.lp 4 [5, 6, 7, 8, 14, 15] J01) ⟨[(5, .ptr 0 0), (6, .ptr 1 0), (7, .slr 2 0 (List.length l2)), (8, .p (.i .i64 x8)), (14, .p (.i .i64 s.1)), (15, .p (.i .i64 s.2))], [.box (List.map AV.p (J0 b0)), .box (List.map AV.p (J4 b1)), .arr true 1 (List.map r_b l2), .box (List.map AV.p B3)]⟩) = (J25 p) o) (fun s r hs => by rw [J19]; exact J87 p hs) (fun s s1 r hs ih => by rw [J19]; exact (J87 p hs).trans ih) h0
def J5V  : Option (Bool) :=
 some true
theorem Jbi {B0 B1 : List PV} {B2 : List (List PV)} {w2 o : Bool} (h : J5V = some o) :
  rk (J1 p) JJ 0 [] (X (J1 p) JU ⟨[], [.box (List.map AV.p B0), .box (List.map AV.p B1), .arr w2 1 B2]⟩) = J2y o := by
 unfold J5V at h
 obtain rfl := sj h
 try simp only [↓Da, Ua, JU, J2w, ↓reduceIte, reduceEqDiff, reduceAdd, reduceLT, reduceMul]
 rfl
def J2W (x8 : Int) (b0 : T_pagemenddraw_Codes) (b1 : T_api_Image) (l2 : List Bool) : Option (((Int × T_pagemenddraw_Codes × T_api_Image × (List Bool)) ⊕ (Bool))) :=
 if (decide (x8 > 0)) then
  Option.bind (J06 b0 b1.Pages) fun r2 =>
  Option.bind (J2o r2.2 r2.1) fun r5 =>
  Option.bind (J2d r5.1) fun r8 =>
  Option.bind (J4C b1 r2.1 r8.1) fun r11 =>
  if ((r11.2 : Int) != 0) then
   some (.inr false)
  else
   Option.bind (idx l2 r2.1) fun y15 =>
   Option.bind (some (List.set l2 (Int.toNat r2.1) true)) fun m19 =>
   J43 x8 r5.2 r11.1 m19 (0, 0)
 else
  Option.map (fun o => .inr o) (J5V)
theorem J8g {x8 : Int} {b0 : T_pagemenddraw_Codes} {b1 : T_api_Image} {l2 : List Bool} {o : ((Int × T_pagemenddraw_Codes × T_api_Image × (List Bool)) ⊕ (Bool))} (h : J2W x8 b0 b1 l2 = some o) :
  rk (J1 p) JJ 0 [.lo 3 [5, 6, 7, 8] JI, .bl 0, .td 3 [4], .sq (.keep [] JU)] (X (J1 p) JI ⟨[(5, .ptr 0 0), (6, .ptr 1 0), (7, .slr 2 0 (List.length l2)), (8, .p (.i .i64 x8))], [.box (List.map AV.p (J0 b0)), .box (List.map AV.p (J4 b1)), .arr true 1 (List.map r_b l2)]⟩) = (J25 p) o := by
 unfold J2W at h
 rcases Jd h with ⟨h1, h⟩ | ⟨h1, h⟩
 ·obtain ⟨r2, h3, h⟩ := bi h
  have f4 : ∀ ws new s, J1o ws s [0] [List.map AV.p (J0 b0)] → (Jq (AF (J1 p)) Jm ([.ptr 0 0, .p (.i .i64 b1.Pages)], ws) 0 new).run s = some ⟨.p (.i .i64 r2.1), ws ++ [(0, .box (List.map AV.p (J0 r2.2)))]⟩ := J0K (args' := [.ptr 0 0, .p (.i .i64 b1.Pages)]) (bs := [0]) (css := [List.map AV.p (J0 b0)]) (css' := [List.map AV.p (J0 r2.2)]) rfl rfl rfl (by simp [JN, Jr]) (J0u p h3) rfl rfl (by simp [JN, Jr])
  try simp only [Nf] at f4
  obtain ⟨r5, h6, h⟩ := bi h
  have f7 : ∀ ws new s, J1o ws s [0] [List.map AV.p (J0 r2.2)] → (Jq (AF (J1 p)) J3n ([.ptr 0 0, .p (.i .i64 r2.1)], ws) 0 new).run s = some ⟨.data (J3 r5.1), ws ++ [(0, .box (List.map AV.p (J0 r5.2)))]⟩ := J0K (args' := [.ptr 0 0, .p (.i .i64 r2.1)]) (bs := [0]) (css := [List.map AV.p (J0 r2.2)]) (css' := [List.map AV.p (J0 r5.2)]) rfl rfl rfl (by simp [JN, Jr]) (Jem p h6) rfl rfl (by simp [JN, Jr])
  try simp only [Nf] at f7
  obtain ⟨r8, h9, h⟩ := bi h
  have f10 := Jhl p h9
  try simp only [Nf] at f10
  obtain ⟨r11, h12, h⟩ := bi h
  have f13 := Jlv p h12
  try simp only [Nf] at f13
  try simp only [↓Da, Ua, JI, Jf, J5, J2, J6, Je, Jh, *, ↓reduceIte, reduceEqDiff, reduceAdd, reduceLT, reduceMul]
  rcases Jd h with ⟨h14, h⟩ | ⟨h14, h⟩
  ·obtain rfl := sj h
   try simp only [↓Da, Ua, JI, Jf, J5, J2, J6, Je, Jh, J2w, *, ↓reduceIte, reduceEqDiff, reduceAdd, reduceLT, reduceMul]
   rfl
  ·obtain ⟨y15, h16, h⟩ := bi h
   have f17 := JfE (r := r_b) h16
   try simp only [Nf] at f17
   have f18 : (0 ≤ (r2.1 : Int) ∧ (r2.1 : Int) < (((List.length l2) : Nat) : Int)) = True := eq_true (by have e0 := Jhb h16; (try simp only [List.length_cons, List.length_nil, Nat.zero_add] at e0); omega)
   obtain ⟨m19, h20, h⟩ := bi h
   have f21 : List.set (List.map r_b l2) (Int.toNat r2.1) (r_b true) = List.map r_b m19 := by
    rw [← Option.some.inj h20, List.map_set]
   try simp only [Nf] at f21
   have g22 : List.length m19 = List.length l2 := by rw [← Option.some.inj h20, List.length_set]
   try simp only [↓Da, Ua, JI, Jf, J5, J2, J6, Je, Jh, *, ↓reduceIte, reduceEqDiff, reduceAdd, reduceLT, reduceMul]
   have e0 := Jav p (B3 := (J4 r11.1)) h
   try simp only [g22] at e0
   exact e0
 ·obtain ⟨o', h', rfl⟩ := mi h
  try simp only [↓Da, Ua, JI, Jf, J5, J2, J6, Je, Jh, *, ↓reduceIte, reduceEqDiff, reduceAdd, reduceLT, reduceMul]
  have e0 := Jbi p (B0 := (J0 b0)) (B1 := (J4 b1)) (w2 := true) (B2 := (List.map r_b l2)) h'
  exact e0
def J61  (s : Int × T_pagemenddraw_Codes × T_api_Image × (List Bool)) : Option (Bool) :=
 Ju (fun s => J2W  s.1 s.2.1 s.2.2.1 s.2.2.2) s
theorem Jax  {s : Int × T_pagemenddraw_Codes × T_api_Image × (List Bool)} {o : Bool} (h : J61  s = some o) :
  rk (J1 p) JJ 0 [.bl 0, .td 3 [4], .sq (.keep [] JU)] (X (J1 p) (.lp 3 [5, 6, 7, 8] JI) ⟨[(5, .ptr 0 0), (6, .ptr 1 0), (7, .slr 2 0 (List.length s.2.2.2)), (8, .p (.i .i64 s.1))], [.box (List.map AV.p (J0 s.2.1)), .box (List.map AV.p (J4 s.2.2.1)), .arr true 1 (List.map r_b s.2.2.2)]⟩) = J2y o := by
 have h0 : Ju (fun s => J2W  s.1 s.2.1 s.2.2.1 s.2.2.2) s = some o := h
 exact J0T (P := fun (s : Int × T_pagemenddraw_Codes × T_api_Image × (List Bool)) (o : Bool) => rk (J1 p) JJ 0 [.bl 0, .td 3 [4], .sq (.keep [] JU)] (X (J1 p) (.lp 3 [5, 6, 7, 8] JI) ⟨[(5, .ptr 0 0), (6, .ptr 1 0), (7, .slr 2 0 (List.length s.2.2.2)), (8, .p (.i .i64 s.1))], [.box (List.map AV.p (J0 s.2.1)), .box (List.map AV.p (J4 s.2.2.1)), .arr true 1 (List.map r_b s.2.2.2)]⟩) = J2y o) (fun s r hs => by rw [J19]; exact J8g p hs) (fun s s1 r hs ih => by rw [J19]; exact (J8g p hs).trans ih) h0
def J2v (x0 : List Int) (x1 : Int) : Option (Bool) :=
 Option.bind (J4e) fun r1 =>
 if r1 then
  Option.bind (J6b x0 400) fun r5 =>
  Option.bind (Jfh (IntKind.wrap .i64 x1) 8) fun q8 =>
  Option.bind (mkS 1 (IntKind.wrap .i64 (1 + q8)) (IntKind.wrap .i64 (1 + q8)) false) fun m10 =>
  Option.bind (J06 r5 20) fun r15 =>
  J61 (r15.1, r15.2, (⟨1, (IntKind.wrap .i64 (1 + q8)), ([] : List T_api_Copy)⟩ : T_api_Image), m10)
 else
  some false
theorem Jay {x0 : List Int} {x1 : Int} {o : Bool} (h : J2v x0 x1 = some o) :
  rk (J1 p) JJ 0 [] (X (J1 p) J1Z ⟨[(0, .p (.sl 1 (List.map (r_i .u8) x0))), (1, .p (.i .u8 x1))], []⟩) = J2y o := by
 unfold J2v at h
 obtain ⟨r1, h2, h⟩ := bi h
 have f3 := Jjg p h2
 try simp only [Nf] at f3
 try simp only [↓Da, Ua, J1Z, Jf, Je, Jh, *, ↓reduceIte, reduceEqDiff, reduceAdd, reduceLT, reduceMul]
 rcases Jd h with ⟨h4, h⟩ | ⟨h4, h⟩
 ·obtain ⟨r5, h6, h⟩ := bi h
  have f7 : ∀ ws new s, (Jq (AF (J1 p)) J7g ([.p (.sl 1 (List.map (r_i .u8) x0)), .p (.i .i64 400)], ws) 1 new).run s = some ⟨.ptr new 0, ws ++ [(new, .box (List.map AV.p (J0 r5)))]⟩ := Jmy rfl (JmK p h6) (Jr _)
  try simp only [Nf] at f7
  obtain ⟨q8, h9, h⟩ := bi h
  obtain ⟨m10, h11, h⟩ := bi h
  have f12 : (0 ≤ ((IntKind.wrap .i64 (1 + q8)) : Int) ∧ ((IntKind.wrap .i64 (1 + q8)) : Int) ≤ (IntKind.wrap .i64 (1 + q8)) ∧ ((1 : Nat) : Int) * (IntKind.wrap .i64 (1 + q8)) ≤ 281474976710656 ∧ ((IntKind.wrap .i64 (1 + q8)) : Int) ≤ 281474976710656) = True := eq_true (J86 h11).1
  have f13 : List.replicate (Int.toNat (IntKind.wrap .i64 (1 + q8))) (r_b false) = List.map r_b m10 := by rw [(J86 h11).2, List.map_replicate]
  try simp only [Nf] at f13
  have g14 : List.length m10 = Int.toNat (IntKind.wrap .i64 (1 + q8)) := by rw [(J86 h11).2, List.length_replicate]
  obtain ⟨r15, h16, h⟩ := bi h
  have f17 : ∀ ws new s, J1o ws s [0] [List.map AV.p (J0 r5)] → (Jq (AF (J1 p)) Jm ([.ptr 0 0, .p (.i .i64 20)], ws) 0 new).run s = some ⟨.p (.i .i64 r15.1), ws ++ [(0, .box (List.map AV.p (J0 r15.2)))]⟩ := J0K (args' := [.ptr 0 0, .p (.i .i64 20)]) (bs := [0]) (css := [List.map AV.p (J0 r5)]) (css' := [List.map AV.p (J0 r15.2)]) rfl rfl rfl (by simp [JN, Jr]) (J0u p h16) rfl rfl (by simp [JN, Jr])
  try simp only [Nf] at f17
  try simp only [↓Da, Ua, J1Z, Jf, Je, Jh, *, ↓reduceIte, reduceEqDiff, reduceAdd, reduceLT, reduceMul]
  have e0 := Jax p h
  try simp only [g14] at e0
  exact e0
 ·obtain rfl := sj h
  try simp only [↓Da, Ua, J1Z, Jf, Je, Jh, J2w, *, ↓reduceIte, reduceEqDiff, reduceAdd, reduceLT, reduceMul]
  rfl
theorem JcY {x0 : List Int} {x1 : Int} {o : Bool} (h : J2v x0 x1 = some o) : AF (J1 p) J4R [.p (.sl 1 (List.map (r_i .u8) x0)), .p (.i .u8 x1)] [] = J2y o :=
 (J14 (J1 p) (Jd5 p) rfl).trans (Jay p h)
end
end Go.Am
end
section
end
section
namespace Go.Am
theorem wrap64 {n : Int} (h1 : -9223372036854775808 ≤ n) (h2 : n ≤ 9223372036854775807) : IntKind.i64.wrap n = n := by
 simp [IntKind.wrap_i64]; omega
theorem J6H {n : Int} (h1 : 0 ≤ n) (h2 : n < 18446744073709551616) : IntKind.u64.wrap n = n := by
 rw [show IntKind.u64.wrap n = n % 18446744073709551616 by simp [IntKind.wrap, IntKind.bits, IntKind.signed]]; omega
theorem J57 {α : Type} (l : List α) (k : Nat) : idx l (k : Int) = l[k]? := by simp [idx]
theorem J3g {α : Type} {n : Nat} (v : Vector α n) (k : Nat) (h : k < n) : J6Q v (k : Int) = some v[k] := by
 have e : (0 : Int) ≤ k ∧ (k : Int) < n := by omega
 simp [J6Q, e, h]
theorem J6A {n k : Nat} (h : k < n) : inb n (k : Int) = some () := by
 have e : (0 : Int) ≤ k ∧ (k : Int) < n := by omega
 simp [inb, e]
theorem J1P {k : Nat} (h : k < 1000000) : IntKind.i64.wrap ((k : Int) + 1) = ((k + 1 : Nat) : Int) := by
 rw [wrap64 (by omega) (by omega)]; simp
theorem J0L {σ ρ : Type} {f : σ → Option (σ ⊕ ρ)} (I : σ → Prop) (m : σ → Nat) (Q : ρ → Prop)
  (h : ∀ s, I s → (∃ s', f s = some (.inl s') ∧ I s' ∧ m s' < m s) ∨ (∃ r, f s = some (.inr r) ∧ Q r)) : ∀ s, I s → ∃ r, Ju f s = some r ∧ Q r := by
 have key : ∀ n s, m s ≤ n → I s → ∃ r, Ju f s = some r ∧ Q r := by
  intro n
  induction n with
  | zero =>
   intro s hm hs
   rcases h s hs with ⟨s', e, hs', hlt⟩ | ⟨r, e, hq⟩
   ·omega
   ·exact ⟨r, J22 e, hq⟩
  | succ n ih =>
   intro s hm hs
   rcases h s hs with ⟨s', e, hs', hlt⟩ | ⟨r, e, hq⟩
   ·obtain ⟨r, hr, hq⟩ := ih s' (by omega) hs'
    exact ⟨r, (J2J e).trans hr, hq⟩
   ·exact ⟨r, J22 e, hq⟩
 exact fun s hs => key (m s) s (Nat.le_refl _) hs
structure J1z (b : T_pagemenddraw_Codes) : Prop where
 at0 : 0 ≤ b.at_
 at1 : b.at_ ≤ b.l_.length
 len : b.l_.length ≤ 1000
 byte : ∀ x ∈ b.l_, 0 ≤ x ∧ x ≤ 255
theorem JmO {b : T_pagemenddraw_Codes} (hb : J1z b) {n : Int} (h1 : 1 ≤ n) (h2 : n ≤ 256) (m : Nat) : ∃ r b', J3G (m + 1) b n = some (r, b') ∧ J1z b' ∧ 0 ≤ r ∧ r < n := by
 obtain ⟨ha, hb1, hl, hx⟩ := hb
 simp only [J3G, J4Q]
 by_cases hc : b.at_ ≥ (b.l_.length : Int)
 ·exact ⟨0, b, by simp [hc], ⟨ha, hb1, hl, hx⟩, by omega, by omega⟩
 ·obtain ⟨k, hk⟩ : ∃ k : Nat, b.at_ = (k : Int) := ⟨b.at_.toNat, by omega⟩
  have hk2 : k < b.l_.length := by omega
  have hy := hx _ (List.getElem_mem hk2)
  have e1 : ¬ n < 1 := by omega
  have e2 : ¬ n > 256 := by omega
  have e3 : idx b.l_ b.at_ = some b.l_[k] := by rw [hk, J57, List.getElem?_eq_getElem hk2]
  have e4 : ¬ n = 0 := by omega
  refine ⟨(b.l_[k]).tmod n, ⟨b.l_, b.at_ + 1⟩, ?_, ⟨by show 0 ≤ b.at_ + 1; omega, by show b.at_ + 1 ≤ (b.l_.length : Int); omega, hl, hx⟩, Int.tmod_nonneg _ hy.1, Int.tmod_lt_of_pos _ (by omega)⟩
  simp only [hc, decide_false, e1, e2, e3, Option.bind_some, Jfh, e4, if_false, Bool.false_eq_true]
  rw [wrap64 (by omega) (by omega), wrap64 (by omega) (by omega)]
theorem J63 {b : T_pagemenddraw_Codes} (hb : J1z b) {n : Int} (h1 : 1 ≤ n) (h2 : n ≤ 256) : ∃ r b', J06 b n = some (r, b') ∧ J1z b' ∧ 0 ≤ r ∧ r < n := JmO hb h1 h2 11
theorem JsV {l : List Int} (h : ∀ x ∈ l, 0 ≤ x ∧ x ≤ 255) {n : Nat} (hn : n ≤ 1000) : ∃ b, J6b l (n : Int) = some b ∧ J1z b := by
 unfold J6b J77
 by_cases hc : (l.length : Int) > n
 ·have : J28 l none (some (n : Int)) = some (l.take n) := by
   have e1 : (0 : Int) ≤ n ∧ n ≤ l.length := by omega
   have e2 : n ≤ l.length := by omega
   simp [J28, Jda, Jbe, e2]
  refine ⟨⟨l.take n, 0⟩, by simp [hc, this], ⟨by show (0 : Int) ≤ 0; omega, by show (0 : Int) ≤ _; omega, by simp; omega, fun x hx => h x (List.mem_of_mem_take hx)⟩⟩
 ·exact ⟨⟨l, 0⟩, by simp [hc], ⟨by show (0 : Int) ≤ 0; omega, by show (0 : Int) ≤ _; omega, by show l.length ≤ 1000; omega, h⟩⟩
theorem Jme {b : T_pagemenddraw_Codes} (hb : J1z b) {n : Int} (h0 : 0 ≤ n) (h1 : n ≤ 20) : ∃ s b', J2B n b = some (s, b') ∧ J1z b' := by
 have e0 : mkS 1 0 n (0 : Int) = some [] := by
  have : (0 : Int) ≤ n ∧ 1 * n ≤ 281474976710656 ∧ n ≤ 281474976710656 := by omega
  simp [mkS]; omega
 unfold J2B
 simp only [e0, Option.bind_some]
 obtain ⟨r, hr, hq⟩ := J0L (f := fun s : Int × T_pagemenddraw_Codes × List Int => J21 n s.1 s.2.1 s.2.2)
  (fun s => ∃ k : Nat, s.1 = k ∧ (k : Int) ≤ n ∧ J1z s.2.1 ∧ s.2.2.length = k) (fun s => (n - s.1).toNat) (fun r => J1z r.2)
  (fun s ⟨k, hk, hn, hc, hl⟩ => by
   obtain ⟨i, b, l⟩ := s
   simp only at hk hc hl
   subst hk
   by_cases hlt : (k : Int) < n
   ·left
    obtain ⟨r, b', e1, hb', _, _⟩ := J63 hc (n := 3) (by omega) (by omega)
    have e2 : J4S (l.length + 1) 1 = true := by simp [J4S]; omega
    have e3 : ∀ z : Int, Jbc 1 l [z] = some (l ++ [z]) := fun z => by simp only [Jbc, List.length_cons, List.length_nil, Nat.zero_add, e2, if_true]
    refine ⟨⟨((k + 1 : Nat) : Int), b', l ++ [IntKind.wrap .u8 (IntKind.wrap .i64 (97 + r))]⟩, ?_, ⟨k + 1, rfl, by simp; omega, hb', by simp [hl]⟩, by simp; omega⟩
    simp only [J21, hlt, decide_true, if_true, e1, e3, Option.bind_some, J1P (show k < 1000000 by omega)]
   ·right
    refine ⟨(toStr l, b), ?_, hc⟩
    simp [J21, J4P, hlt])
  (0, b, []) ⟨0, rfl, by simpa using h0, hb, rfl⟩
 exact ⟨r.1, r.2, hr, hq⟩
def Jm2 (c : J8) : Prop := c.Data.length ≤ 12 ∧ (c.Set = false → c.Data = [])
theorem Jo2 {b : T_pagemenddraw_Codes} (hb : J1z b) : ∃ c b', J3t b = some (c, b') ∧ J1z b' ∧ Jm2 c := by
 obtain ⟨r, b1, e1, hb1, _, _⟩ := J63 hb (n := 3) (by omega) (by omega)
 unfold J3t
 simp only [e1, Option.bind_some]
 by_cases h0 : r = 0
 ·exact ⟨⟨false, []⟩, b1, by simp [h0], hb1, by simp [Jm2]⟩
 ·have hd : ∃ s b', J3q b1 = some (s, b') ∧ J1z b' := by
   unfold J3q
   obtain ⟨r1, b2, e2, hb2, h21, h22⟩ := J63 hb1 (n := 5) (by omega) (by omega)
   obtain ⟨r2, b3, e3, hb3, _, _⟩ := J63 hb2 (n := 6) (by omega) (by omega)
   simp only [e2, e3, Option.bind_some]
   by_cases h6 : r2 = 0
   ·obtain ⟨r3, b4, e4, hb4, h41, h42⟩ := J63 hb3 (n := 14) (by omega) (by omega)
    obtain ⟨s, b5, e5, hb5⟩ := Jme hb4 h41 (by omega)
    exact ⟨s, b5, by simp [h6, e4, e5], hb5⟩
   ·obtain ⟨s, b5, e5, hb5⟩ := Jme hb3 h21 (by omega)
    exact ⟨s, b5, by simp [h6, e5], hb5⟩
  obtain ⟨s, b2, e2, hb2⟩ := hd
  have e3 : J28 s none (some (Jfc (s.length : Int) 12)) = some (s.take (min s.length 12)) := by
   have e4 : Jfc (s.length : Int) 12 = ((min s.length 12 : Nat) : Int) := by unfold Jfc; split <;> omega
   have e5 : min s.length 12 ≤ s.length := by omega
   rw [e4]
   simp only [J28, Jda, Jbe]
   have e6 : (0 : Int) ≤ ((min s.length 12 : Nat) : Int) ∧ ((min s.length 12 : Nat) : Int) ≤ ((s.length : Nat) : Int) := by omega
   simp only [e6, and_self, if_true, Int.toNat_natCast, List.drop_zero, Nat.sub_zero]
  refine ⟨⟨true, s.take (min s.length 12)⟩, b2, ?_, hb2, ?_⟩
  ·simp only [e2, Option.bind_some, e3]
   simp [h0]
  ·refine ⟨?_, fun h => by cases h⟩
   simp only [List.length_take]; omega
def J4q (lsn : Int) (c : J8) : Prop := c.Data.length ≤ 12 ∧ (c.Set = false → c.Data = []) ∧ (c.Set = true → lsn ≠ 0)
structure J3c (p : T_api_Page) : Prop where
 id0 : 0 ≤ p.ID
 id1 : p.ID < 64
 lsn0 : 0 ≤ p.LSN
 lsn1 : p.LSN ≤ 1099511627776
 cells : ∀ (i : Nat) (h : i < 16), J4q p.LSN (p.Cells[i])
theorem JkP {id lsn : Int} (h0 : 0 ≤ id) (h1 : id < 64) (h2 : 0 ≤ lsn) (h3 : lsn ≤ 1099511627776) : J3c ⟨id, lsn, Vector.replicate 16 ⟨false, []⟩⟩ :=
 ⟨h0, h1, h2, h3, fun i h => by simp [J4q]⟩
theorem Jou {b : T_pagemenddraw_Codes} (hb : J1z b) {id : Int} (h0 : 0 ≤ id) (h1 : id < 64) : ∃ p b', J2o b id = some (p, b') ∧ J1z b' ∧ J3c p ∧ p.ID = id := by
 have go : ∀ (b : T_pagemenddraw_Codes) (lsn : Int) (b1 : T_api_Page), J1z b → 0 ≤ lsn → lsn ≤ 1099511627776 →
   ∃ p b', J2A b b1 ⟨id, lsn, Vector.replicate 16 ⟨false, []⟩⟩ = some (p, b') ∧ J1z b' ∧ J3c p ∧ p.ID = id := by
  intro b lsn b1 hb hl0 hl1
  unfold J2A
  by_cases hl : lsn > 0
  ·obtain ⟨r, b2, e1, hb2, hr0, hr1⟩ := J63 hb (n := 6) (by omega) (by omega)
   obtain ⟨o, ho, hq⟩ := J0L (f := fun s : Int × T_pagemenddraw_Codes × T_api_Page => J20 b1 s.1 s.2.1 s.2.2)
    (fun s => 0 ≤ s.1 ∧ s.1 ≤ 6 ∧ J1z s.2.1 ∧ J3c s.2.2 ∧ s.2.2.ID = id ∧ s.2.2.LSN = lsn) (fun s => s.1.toNat) (fun r => J1z r.2 ∧ J3c r.1 ∧ r.1.ID = id)
    (fun s ⟨i0, i1, hc, hp, hid, hlsn⟩ => by
     obtain ⟨i, b, p⟩ := s
     simp only at i0 i1 hc hp hid hlsn
     by_cases hi : i > 0
     ·left
      obtain ⟨r, b2, e1, hb2, hr0, hr1⟩ := J63 hc (n := 16) (by omega) (by omega)
      obtain ⟨c, b3, e2, hb3, hcf⟩ := Jo2 hb2
      obtain ⟨k, rfl⟩ : ∃ k : Nat, r = (k : Int) := ⟨r.toNat, by omega⟩
      have hk : k < 16 := by omega
      refine ⟨⟨i - 1, b3, ⟨p.ID, p.LSN, J70 p.Cells (k : Int) c⟩⟩, ?_, ⟨by show 0 ≤ i - 1; omega, by show i - 1 ≤ 6; omega, hb3, ?_, hid, hlsn⟩, by show (i - 1).toNat < i.toNat; omega⟩
      ·simp only [J20, hi, decide_true, if_true, e1, e2, Option.bind_some, J6A hk, J3g _ k hk, wrap64 (show -9223372036854775808 ≤ i - 1 by omega) (by omega)]
      ·refine ⟨hp.id0, hp.id1, hp.lsn0, hp.lsn1, fun j hj => ?_⟩
       show J4q p.LSN ((J70 p.Cells (k : Int) c)[j])
       simp only [J70, Int.toNat_natCast, Vector.getElem_setIfInBounds]
       split
       ·exact ⟨hcf.1, hcf.2, fun _ => by rw [hlsn]; omega⟩
       ·exact hp.cells j hj
     ·right
      exact ⟨(p, b), by simp [J20, J2z, hi], hc, hp, hid⟩)
    (r, b2, ⟨id, lsn, Vector.replicate 16 ⟨false, []⟩⟩) ⟨hr0, by show r ≤ 6; omega, hb2, JkP h0 h1 hl0 hl1, rfl, rfl⟩
   refine ⟨o.1, o.2, ?_, hq.1, hq.2⟩
   simp only [hl, decide_true, if_true, e1, Option.bind_some]
   exact ho
  ·exact ⟨_, b, by simp [hl, J2z], hb, JkP h0 h1 hl0 hl1, rfl⟩
 obtain ⟨r, b1, e1, hb1, hr0, hr1⟩ := J63 hb (n := 50) (by omega) (by omega)
 obtain ⟨r2, b2, e2, hb2, _, _⟩ := J63 hb1 (n := 10) (by omega) (by omega)
 unfold J2o
 simp only [e1, e2, Option.bind_some]
 by_cases h9 : r2 = 9
 ·obtain ⟨r3, b3, e3, hb3, h30, h31⟩ := J63 hb2 (n := 2) (by omega) (by omega)
  have e4 : IntKind.wrap .i64 (1099511627776 - r3) = 1099511627776 - r3 := wrap64 (by omega) (by omega)
  simp only [h9, e3, Option.bind_some, e4]
  exact go b3 _ _ hb3 (by omega) (by omega)
 ·have e5 : ((r2 : Int) == 9) = false := by simpa using h9
  simp only [e5, Bool.false_eq_true, if_false]
  exact go b2 _ _ hb2 (by omega) (by omega)
end Go.Am
end
