/-
  Parts of a proof.
-/
import Derived.Test.YtiallbcnaadmoaaM6
import Derived.Test.YtiallbcnaadmoaaM7
import Derived.Test.YtiallbcnaadmoaaM8
set_option linter.unusedSimpArgs false
set_option linter.unusedVariables false
section
namespace Go.Am
set_option maxRecDepth 8000
set_option maxHeartbeats 4000000
set_option linter.unusedSimpArgs false
set_option linter.unusedVariables false
structure T_api_Copy where
 Page : Int
 LSN : Int
 Data : List UInt8
 deriving DecidableEq
instance : Inhabited T_api_Copy := ⟨⟨0, 0, []⟩⟩
def J5 (x : T_api_Copy) : List PV := (cat [.i .i64 x.Page] (cat [.i .i64 x.LSN] [.s x.Data]))
theorem Jac (x : T_api_Copy) : (J5 x).length = 3 := by
 simp only [cat, J5, List.length_append, List.length_cons, List.length_nil]
theorem Jgv (x : T_api_Copy) : sub (J5 x) 0 1 = some [.i .i64 x.Page] := by unfold J5; exact J8E rfl
theorem Jgn (x : T_api_Copy) (y : Int) : spl (J5 x) 0 [.i .i64 y] = some (J5 ⟨y, x.LSN, x.Data⟩) := by unfold J5; exact J8D rfl
theorem JhV (x : T_api_Copy) : sub (J5 x) 1 1 = some [.i .i64 x.LSN] := by
 have e0 : J5 x = cat [.i .i64 x.Page] (cat [.i .i64 x.LSN] [.s x.Data]) := by unfold J5; simp only [cat, List.append_assoc]
 rw [e0]; exact JaV (by simp only [cat, List.length_append, List.length_cons, List.length_nil]) rfl
theorem Jhp (x : T_api_Copy) (y : Int) : spl (J5 x) 1 [.i .i64 y] = some (J5 ⟨x.Page, y, x.Data⟩) := by
 have e0 : J5 x = cat [.i .i64 x.Page] (cat [.i .i64 x.LSN] [.s x.Data]) := by unfold J5; simp only [cat, List.append_assoc]
 have e1 : J5 ⟨x.Page, y, x.Data⟩ = cat [.i .i64 x.Page] (cat [.i .i64 y] [.s x.Data]) := by unfold J5; simp only [cat, List.append_assoc]
 rw [e0, e1]; exact JaX (by simp only [cat, List.length_append, List.length_cons, List.length_nil]) rfl
theorem JgP (x : T_api_Copy) : sub (J5 x) 2 1 = some [.s x.Data] := by
 have e0 : J5 x = cat (cat [.i .i64 x.Page] [.i .i64 x.LSN]) [.s x.Data] := by unfold J5; simp only [cat, List.append_assoc]
 rw [e0]; exact J9X (by simp only [cat, List.length_append, List.length_cons, List.length_nil]) rfl
theorem Jgu (x : T_api_Copy) (y : List UInt8) : spl (J5 x) 2 [.s y] = some (J5 ⟨x.Page, x.LSN, y⟩) := by
 have e0 : J5 x = cat (cat [.i .i64 x.Page] [.i .i64 x.LSN]) [.s x.Data] := by unfold J5; simp only [cat, List.append_assoc]
 have e1 : J5 ⟨x.Page, x.LSN, y⟩ = cat (cat [.i .i64 x.Page] [.i .i64 x.LSN]) [.s y] := by unfold J5; simp only [cat, List.append_assoc]
 rw [e0, e1]; exact J9O (by simp only [cat, List.length_append, List.length_cons, List.length_nil]) rfl
theorem Jno : (default : T_api_Copy) = (⟨0, 0, []⟩ : T_api_Copy) := rfl
theorem Jlc (x : T_api_Copy) : sub (J5 x) 0 3 = some (J5 x) := JaA (Jac x)
theorem Jlb (x y : T_api_Copy) : spl (J5 x) 0 (J5 y) = some (J5 y) := JaC ((Jac x).trans (Jac y).symm)
theorem Je : (∀ x : T_api_Copy, (J5 x).length = 3) ∧
 (∀ x : T_api_Copy, sub (J5 x) 0 1 = some [.i .i64 x.Page]) ∧
 (∀ (x : T_api_Copy) (y : Int), spl (J5 x) 0 [.i .i64 y] = some (J5 ⟨y, x.LSN, x.Data⟩)) ∧
 (∀ x : T_api_Copy, sub (J5 x) 1 1 = some [.i .i64 x.LSN]) ∧
 (∀ (x : T_api_Copy) (y : Int), spl (J5 x) 1 [.i .i64 y] = some (J5 ⟨x.Page, y, x.Data⟩)) ∧
 (∀ x : T_api_Copy, sub (J5 x) 2 1 = some [.s x.Data]) ∧
 (∀ (x : T_api_Copy) (y : List UInt8), spl (J5 x) 2 [.s y] = some (J5 ⟨x.Page, x.LSN, y⟩)) ∧
 ((default : T_api_Copy) = (⟨0, 0, []⟩ : T_api_Copy)) ∧
 (∀ x : T_api_Copy, sub (J5 x) 0 3 = some (J5 x)) ∧
 (∀ x y : T_api_Copy, spl (J5 x) 0 (J5 y) = some (J5 y)) :=
 ⟨@Jac, @Jgv, @Jgn, @JhV, @Jhp, @JgP, @Jgu, Jno, @Jlc, @Jlb⟩
theorem Jq : (∀ x : T_api_Copy, J5 x = (cat [.i .i64 x.Page] (cat [.i .i64 x.LSN] [.s x.Data]))) ∧ (default : T_api_Copy) = (⟨0, 0, []⟩ : T_api_Copy) := ⟨fun _ => rfl, rfl⟩
structure T_api_Image where
 ID : Int
 Pages : Int
 Copies : List T_api_Copy
 deriving DecidableEq
instance : Inhabited T_api_Image := ⟨⟨0, 0, []⟩⟩
def J7 (x : T_api_Image) : List PV := (cat [.i .i64 x.ID] (cat [.i .i64 x.Pages] [.sl 3 (List.map J5 x.Copies)]))
theorem J9e (x : T_api_Image) : (J7 x).length = 3 := by
 simp only [cat, J7, List.length_append, List.length_cons, List.length_nil]
theorem JhO (x : T_api_Image) : sub (J7 x) 0 1 = some [.i .i64 x.ID] := by unfold J7; exact J8E rfl
theorem Jht (x : T_api_Image) (y : Int) : spl (J7 x) 0 [.i .i64 y] = some (J7 ⟨y, x.Pages, x.Copies⟩) := by unfold J7; exact J8D rfl
theorem JeV (x : T_api_Image) : sub (J7 x) 1 1 = some [.i .i64 x.Pages] := by
 have e0 : J7 x = cat [.i .i64 x.ID] (cat [.i .i64 x.Pages] [.sl 3 (List.map J5 x.Copies)]) := by unfold J7; simp only [cat, List.append_assoc]
 rw [e0]; exact JaV (by simp only [cat, List.length_append, List.length_cons, List.length_nil]) rfl
theorem Jf6 (x : T_api_Image) (y : Int) : spl (J7 x) 1 [.i .i64 y] = some (J7 ⟨x.ID, y, x.Copies⟩) := by
 have e0 : J7 x = cat [.i .i64 x.ID] (cat [.i .i64 x.Pages] [.sl 3 (List.map J5 x.Copies)]) := by unfold J7; simp only [cat, List.append_assoc]
 have e1 : J7 ⟨x.ID, y, x.Copies⟩ = cat [.i .i64 x.ID] (cat [.i .i64 y] [.sl 3 (List.map J5 x.Copies)]) := by unfold J7; simp only [cat, List.append_assoc]
 rw [e0, e1]; exact JaX (by simp only [cat, List.length_append, List.length_cons, List.length_nil]) rfl
theorem Je2 (x : T_api_Image) : sub (J7 x) 2 1 = some [.sl 3 (List.map J5 x.Copies)] := by
 have e0 : J7 x = cat (cat [.i .i64 x.ID] [.i .i64 x.Pages]) [.sl 3 (List.map J5 x.Copies)] := by unfold J7; simp only [cat, List.append_assoc]
 rw [e0]; exact J9X (by simp only [cat, List.length_append, List.length_cons, List.length_nil]) rfl
theorem JdT (x : T_api_Image) (y : List T_api_Copy) : spl (J7 x) 2 [.sl 3 (List.map J5 y)] = some (J7 ⟨x.ID, x.Pages, y⟩) := by
 have e0 : J7 x = cat (cat [.i .i64 x.ID] [.i .i64 x.Pages]) [.sl 3 (List.map J5 x.Copies)] := by unfold J7; simp only [cat, List.append_assoc]
 have e1 : J7 ⟨x.ID, x.Pages, y⟩ = cat (cat [.i .i64 x.ID] [.i .i64 x.Pages]) [.sl 3 (List.map J5 y)] := by unfold J7; simp only [cat, List.append_assoc]
 rw [e0, e1]; exact J9O (by simp only [cat, List.length_append, List.length_cons, List.length_nil]) rfl
theorem JlC : (default : T_api_Image) = (⟨0, 0, []⟩ : T_api_Image) := rfl
theorem Jk8 (x : T_api_Image) : sub (J7 x) 0 3 = some (J7 x) := JaA (J9e x)
theorem JjE (x y : T_api_Image) : spl (J7 x) 0 (J7 y) = some (J7 y) := JaC ((J9e x).trans (J9e y).symm)
theorem Jd : (∀ x : T_api_Image, (J7 x).length = 3) ∧
 (∀ x : T_api_Image, sub (J7 x) 0 1 = some [.i .i64 x.ID]) ∧
 (∀ (x : T_api_Image) (y : Int), spl (J7 x) 0 [.i .i64 y] = some (J7 ⟨y, x.Pages, x.Copies⟩)) ∧
 (∀ x : T_api_Image, sub (J7 x) 1 1 = some [.i .i64 x.Pages]) ∧
 (∀ (x : T_api_Image) (y : Int), spl (J7 x) 1 [.i .i64 y] = some (J7 ⟨x.ID, y, x.Copies⟩)) ∧
 (∀ x : T_api_Image, sub (J7 x) 2 1 = some [.sl 3 (List.map J5 x.Copies)]) ∧
 (∀ (x : T_api_Image) (y : List T_api_Copy), spl (J7 x) 2 [.sl 3 (List.map J5 y)] = some (J7 ⟨x.ID, x.Pages, y⟩)) ∧
 ((default : T_api_Image) = (⟨0, 0, []⟩ : T_api_Image)) ∧
 (∀ x : T_api_Image, sub (J7 x) 0 3 = some (J7 x)) ∧
 (∀ x y : T_api_Image, spl (J7 x) 0 (J7 y) = some (J7 y)) :=
 ⟨@J9e, @JhO, @Jht, @JeV, @Jf6, @Je2, @JdT, JlC, @Jk8, @JjE⟩
theorem Jm : (∀ x : T_api_Image, J7 x = (cat [.i .i64 x.ID] (cat [.i .i64 x.Pages] [.sl 3 (List.map J5 x.Copies)]))) ∧ (default : T_api_Image) = (⟨0, 0, []⟩ : T_api_Image) := ⟨fun _ => rfl, rfl⟩
structure Ja where
 Set : Bool
 Data : List UInt8
 deriving DecidableEq
instance : Inhabited Ja := ⟨⟨false, []⟩⟩
def Jf (x : Ja) : List PV := (cat [.b x.Set] [.s x.Data])
theorem JP (x : Ja) : (Jf x).length = 2 := by
 simp only [cat, Jf, List.length_append, List.length_cons, List.length_nil]
theorem J9A (x : Ja) : sub (Jf x) 0 1 = some [.b x.Set] := by unfold Jf; exact J8E rfl
theorem JhT (x : Ja) (y : Bool) : spl (Jf x) 0 [.b y] = some (Jf ⟨y, x.Data⟩) := by unfold Jf; exact J8D rfl
theorem J70 (x : Ja) : sub (Jf x) 1 1 = some [.s x.Data] := by
 have e0 : Jf x = cat [.b x.Set] [.s x.Data] := by unfold Jf; simp only [cat, List.append_assoc]
 rw [e0]; exact J9X (by simp only [cat, List.length_append, List.length_cons, List.length_nil]) rfl
theorem Jgq (x : Ja) (y : List UInt8) : spl (Jf x) 1 [.s y] = some (Jf ⟨x.Set, y⟩) := by
 have e0 : Jf x = cat [.b x.Set] [.s x.Data] := by unfold Jf; simp only [cat, List.append_assoc]
 have e1 : Jf ⟨x.Set, y⟩ = cat [.b x.Set] [.s y] := by unfold Jf; simp only [cat, List.append_assoc]
 rw [e0, e1]; exact J9O (by simp only [cat, List.length_append, List.length_cons, List.length_nil]) rfl
theorem Jn9 : (default : Ja) = (⟨false, []⟩ : Ja) := rfl
theorem Jls (x : Ja) : sub (Jf x) 0 2 = some (Jf x) := JaA (JP x)
theorem JlW (x y : Ja) : spl (Jf x) 0 (Jf y) = some (Jf y) := JaC ((JP x).trans (JP y).symm)
theorem J4 : (∀ x : Ja, (Jf x).length = 2) ∧
 (∀ x : Ja, sub (Jf x) 0 1 = some [.b x.Set]) ∧
 (∀ (x : Ja) (y : Bool), spl (Jf x) 0 [.b y] = some (Jf ⟨y, x.Data⟩)) ∧
 (∀ x : Ja, sub (Jf x) 1 1 = some [.s x.Data]) ∧
 (∀ (x : Ja) (y : List UInt8), spl (Jf x) 1 [.s y] = some (Jf ⟨x.Set, y⟩)) ∧
 ((default : Ja) = (⟨false, []⟩ : Ja)) ∧
 (∀ x : Ja, sub (Jf x) 0 2 = some (Jf x)) ∧
 (∀ x y : Ja, spl (Jf x) 0 (Jf y) = some (Jf y)) :=
 ⟨@JP, @J9A, @JhT, @J70, @Jgq, Jn9, @Jls, @JlW⟩
theorem J3R : (∀ x : Ja, Jf x = (cat [.b x.Set] [.s x.Data])) ∧ (default : Ja) = (⟨false, []⟩ : Ja) := ⟨fun _ => rfl, rfl⟩
theorem J1 : (∀ v : Vector Ja 16, (JU Jf v).length = 32) ∧ (∀ v : Vector Ja 16, sub (JU Jf v) 0 32 = some (JU Jf v)) ∧ (∀ v y : Vector Ja 16, spl (JU Jf v) 0 (JU Jf y) = some (JU Jf y)) :=
 ⟨fun v => J5p JP v, fun v => JaA (J5p JP v), fun v y => JaC ((J5p JP v).trans (J5p JP y).symm)⟩
structure T_api_Page where
 ID : Int
 LSN : Int
 Cells : Vector Ja 16
 deriving DecidableEq
instance : Inhabited T_api_Page := ⟨⟨0, 0, (Vector.replicate 16 (⟨false, []⟩ : Ja))⟩⟩
def J3 (x : T_api_Page) : List PV := (cat [.i .i64 x.ID] (cat [.i .i64 x.LSN] ((JU Jf) x.Cells)))
theorem J9Z (x : T_api_Page) : (J3 x).length = 34 := by
 simp only [cat, J3, (J5p JP x.Cells), List.length_append, List.length_cons, List.length_nil]
theorem JiX (x : T_api_Page) : sub (J3 x) 0 1 = some [.i .i64 x.ID] := by unfold J3; exact J8E rfl
theorem Jj5 (x : T_api_Page) (y : Int) : spl (J3 x) 0 [.i .i64 y] = some (J3 ⟨y, x.LSN, x.Cells⟩) := by unfold J3; exact J8D rfl
theorem Ji9 (x : T_api_Page) : sub (J3 x) 1 1 = some [.i .i64 x.LSN] := by
 have e0 : J3 x = cat [.i .i64 x.ID] (cat [.i .i64 x.LSN] ((JU Jf) x.Cells)) := by unfold J3; simp only [cat, List.append_assoc]
 rw [e0]; exact JaV (by simp only [cat, List.length_append, List.length_cons, List.length_nil, (J5p JP x.Cells)]) rfl
theorem JhM (x : T_api_Page) (y : Int) : spl (J3 x) 1 [.i .i64 y] = some (J3 ⟨x.ID, y, x.Cells⟩) := by
 have e0 : J3 x = cat [.i .i64 x.ID] (cat [.i .i64 x.LSN] ((JU Jf) x.Cells)) := by unfold J3; simp only [cat, List.append_assoc]
 have e1 : J3 ⟨x.ID, y, x.Cells⟩ = cat [.i .i64 x.ID] (cat [.i .i64 y] ((JU Jf) x.Cells)) := by unfold J3; simp only [cat, List.append_assoc]
 rw [e0, e1]; exact JaX (by simp only [cat, List.length_append, List.length_cons, List.length_nil, (J5p JP x.Cells)]) rfl
theorem J0Z (x : T_api_Page) : sub (J3 x) 2 32 = some ((JU Jf) x.Cells) := by
 have e0 : J3 x = cat (cat [.i .i64 x.ID] [.i .i64 x.LSN]) ((JU Jf) x.Cells) := by unfold J3; simp only [cat, List.append_assoc]
 rw [e0]; exact J9X (by simp only [cat, List.length_append, List.length_cons, List.length_nil, (J5p JP x.Cells)]) (J5p JP _)
theorem J6H (x : T_api_Page) (y : Vector Ja 16) : spl (J3 x) 2 ((JU Jf) y) = some (J3 ⟨x.ID, x.LSN, y⟩) := by
 have e0 : J3 x = cat (cat [.i .i64 x.ID] [.i .i64 x.LSN]) ((JU Jf) x.Cells) := by unfold J3; simp only [cat, List.append_assoc]
 have e1 : J3 ⟨x.ID, x.LSN, y⟩ = cat (cat [.i .i64 x.ID] [.i .i64 x.LSN]) ((JU Jf) y) := by unfold J3; simp only [cat, List.append_assoc]
 rw [e0, e1]; exact J9O (by simp only [cat, List.length_append, List.length_cons, List.length_nil, (J5p JP x.Cells)]) ((J5p JP _).trans (J5p JP _).symm)
theorem Jm8 : (default : T_api_Page) = (⟨0, 0, (Vector.replicate 16 (⟨false, []⟩ : Ja))⟩ : T_api_Page) := rfl
theorem JlL (x : T_api_Page) : sub (J3 x) 0 34 = some (J3 x) := JaA (J9Z x)
theorem Jl9 (x y : T_api_Page) : spl (J3 x) 0 (J3 y) = some (J3 y) := JaC ((J9Z x).trans (J9Z y).symm)
theorem J6 : (∀ x : T_api_Page, (J3 x).length = 34) ∧
 (∀ x : T_api_Page, sub (J3 x) 0 1 = some [.i .i64 x.ID]) ∧
 (∀ (x : T_api_Page) (y : Int), spl (J3 x) 0 [.i .i64 y] = some (J3 ⟨y, x.LSN, x.Cells⟩)) ∧
 (∀ x : T_api_Page, sub (J3 x) 1 1 = some [.i .i64 x.LSN]) ∧
 (∀ (x : T_api_Page) (y : Int), spl (J3 x) 1 [.i .i64 y] = some (J3 ⟨x.ID, y, x.Cells⟩)) ∧
 (∀ x : T_api_Page, sub (J3 x) 2 32 = some ((JU Jf) x.Cells)) ∧
 (∀ (x : T_api_Page) (y : Vector Ja 16), spl (J3 x) 2 ((JU Jf) y) = some (J3 ⟨x.ID, x.LSN, y⟩)) ∧
 ((default : T_api_Page) = (⟨0, 0, (Vector.replicate 16 (⟨false, []⟩ : Ja))⟩ : T_api_Page)) ∧
 (∀ x : T_api_Page, sub (J3 x) 0 34 = some (J3 x)) ∧
 (∀ x y : T_api_Page, spl (J3 x) 0 (J3 y) = some (J3 y)) :=
 ⟨@J9Z, @JiX, @Jj5, @Ji9, @JhM, @J0Z, @J6H, Jm8, @JlL, @Jl9⟩
structure T_pagemenddraw_Codes where
 l_ : List Int
 at_ : Int
 deriving DecidableEq
instance : Inhabited T_pagemenddraw_Codes := ⟨⟨[], 0⟩⟩
def J0 (x : T_pagemenddraw_Codes) : List PV := (cat [.sl 1 (List.map (r_i .u8) x.l_)] [.i .i64 x.at_])
theorem J4U (x : T_pagemenddraw_Codes) : (J0 x).length = 2 := by
 simp only [cat, J0, List.length_append, List.length_cons, List.length_nil]
theorem Jbu (x : T_pagemenddraw_Codes) : sub (J0 x) 0 1 = some [.sl 1 (List.map (r_i .u8) x.l_)] := by unfold J0; exact J8E rfl
theorem JbD (x : T_pagemenddraw_Codes) (y : List Int) : spl (J0 x) 0 [.sl 1 (List.map (r_i .u8) y)] = some (J0 ⟨y, x.at_⟩) := by unfold J0; exact J8D rfl
theorem Jb2 (x : T_pagemenddraw_Codes) : sub (J0 x) 1 1 = some [.i .i64 x.at_] := by
 have e0 : J0 x = cat [.sl 1 (List.map (r_i .u8) x.l_)] [.i .i64 x.at_] := by unfold J0; simp only [cat, List.append_assoc]
 rw [e0]; exact J9X (by simp only [cat, List.length_append, List.length_cons, List.length_nil]) rfl
theorem Jbh (x : T_pagemenddraw_Codes) (y : Int) : spl (J0 x) 1 [.i .i64 y] = some (J0 ⟨x.l_, y⟩) := by
 have e0 : J0 x = cat [.sl 1 (List.map (r_i .u8) x.l_)] [.i .i64 x.at_] := by unfold J0; simp only [cat, List.append_assoc]
 have e1 : J0 ⟨x.l_, y⟩ = cat [.sl 1 (List.map (r_i .u8) x.l_)] [.i .i64 y] := by unfold J0; simp only [cat, List.append_assoc]
 rw [e0, e1]; exact J9O (by simp only [cat, List.length_append, List.length_cons, List.length_nil]) rfl
theorem Jd9 : (default : T_pagemenddraw_Codes) = (⟨[], 0⟩ : T_pagemenddraw_Codes) := rfl
theorem Jcu (x : T_pagemenddraw_Codes) : sub (J0 x) 0 2 = some (J0 x) := JaA (J4U x)
theorem Jct (x y : T_pagemenddraw_Codes) : spl (J0 x) 0 (J0 y) = some (J0 y) := JaC ((J4U x).trans (J4U y).symm)
theorem J9 : (∀ x : T_pagemenddraw_Codes, (J0 x).length = 2) ∧
 (∀ x : T_pagemenddraw_Codes, sub (J0 x) 0 1 = some [.sl 1 (List.map (r_i .u8) x.l_)]) ∧
 (∀ (x : T_pagemenddraw_Codes) (y : List Int), spl (J0 x) 0 [.sl 1 (List.map (r_i .u8) y)] = some (J0 ⟨y, x.at_⟩)) ∧
 (∀ x : T_pagemenddraw_Codes, sub (J0 x) 1 1 = some [.i .i64 x.at_]) ∧
 (∀ (x : T_pagemenddraw_Codes) (y : Int), spl (J0 x) 1 [.i .i64 y] = some (J0 ⟨x.l_, y⟩)) ∧
 ((default : T_pagemenddraw_Codes) = (⟨[], 0⟩ : T_pagemenddraw_Codes)) ∧
 (∀ x : T_pagemenddraw_Codes, sub (J0 x) 0 2 = some (J0 x)) ∧
 (∀ x y : T_pagemenddraw_Codes, spl (J0 x) 0 (J0 y) = some (J0 y)) :=
 ⟨@J4U, @Jbu, @JbD, @Jb2, @Jbh, Jd9, @Jcu, @Jct⟩
structure T_page_builder where
 s_ : List UInt8
 deriving DecidableEq
instance : Inhabited T_page_builder := ⟨⟨[]⟩⟩
def J0v (x : T_page_builder) : List PV := [.s x.s_]
theorem Jy : (∀ x : T_page_builder, J0v x = [.s x.s_]) ∧ (default : T_page_builder) = (⟨[]⟩ : T_page_builder) := ⟨fun _ => rfl, rfl⟩
theorem J6N : (∀ v : Vector Int 16, (JU (r_i .u32) v).length = 16) ∧ (∀ v : Vector Int 16, sub (JU (r_i .u32) v) 0 16 = some (JU (r_i .u32) v)) ∧ (∀ v y : Vector Int 16, spl (JU (r_i .u32) v) 0 (JU (r_i .u32) y) = some (JU (r_i .u32) y)) :=
 ⟨fun v => J5p (JaK .u32) v, fun v => JaA (J5p (JaK .u32) v), fun v y => JaC ((J5p (JaK .u32) v).trans (J5p (JaK .u32) y).symm)⟩
theorem JlY (x y : T_api_Copy) : J1v [(.i .i64), (.i .i64), .s] (J5 x) (J5 y) = some (decide (x = y)) := by
 have h := (Jp7 (Jtd .i64 x.Page y.Page) (Jp7 (Jtd .i64 x.LSN y.LSN) (Jwc x.Data y.Data)))
 have e : decide (x.Page = y.Page ∧ (x.LSN = y.LSN ∧ (x.Data = y.Data))) = decide (x = y) := decide_eq_decide.2 (by cases x; cases y; simp only [T_api_Copy.mk.injEq])
 exact h.trans (congrArg some e)
theorem Jcg (x y : T_api_Copy) : J1v [(.i .i64), (.i .i64), .s] (J5 x) (J5 y) = some (x == y) := JlY x y
end Go.Am
end
section
namespace Go.Am
set_option maxRecDepth 8000
set_option maxHeartbeats 4000000
set_option linter.unusedSimpArgs false
set_option linter.unusedVariables false
abbrev J6Y : FuncId := 6
abbrev J6a : FuncId := 18
abbrev J8F : FuncId := 19
abbrev J7i : FuncId := 20
abbrev J0k : FuncId := 22
abbrev J3G : FuncId := 25
abbrev JdI : FuncId := 26
abbrev J4e : FuncId := 30
abbrev Ji : FuncId := 31
abbrev J4S : FuncId := 32
abbrev J5k : FuncId := 34
abbrev J6n : FuncId := 37
abbrev J7k : FuncId := 40
abbrev J5V : FuncId := 41
abbrev Jh0 : FuncId := 42
abbrev J3K : FuncId := 52
abbrev J4q : FuncId := 57
abbrev J45 : FuncId := 64
abbrev J5g : FuncId := 69
abbrev J5T : FuncId := 71
abbrev J6U : FuncId := 72
abbrev J99 : FuncId := 107
abbrev J1k : FuncId := 108
abbrev J3O : FuncId := 110
abbrev J3V : FuncId := 112
abbrev J37 : FuncId := 113
abbrev J2H : FuncId := 114
abbrev J3t : FuncId := 115
abbrev J8c : FuncId := 116
abbrev J5M : FuncId := 117
abbrev J2B : FuncId := 118
abbrev J4d : FuncId := 120
abbrev J6f : FuncId := 121
abbrev J3r : FuncId := 122
abbrev J5A : FuncId := 123
abbrev J34 : FuncId := 126
abbrev J6m : FuncId := 128
abbrev J79 : FuncId := 129
abbrev J0Q : FuncId := 130
abbrev J24 : FuncId := 131
abbrev J3P : FuncId := 132
abbrev J0w : FuncId := 136
abbrev Jb4 : FuncId := 137
abbrev J3A : FuncId := 138
abbrev J5z : FuncId := 139
abbrev J57 : FuncId := 170
abbrev J6d : FuncId := 171
abbrev J0A : FuncId := 177
abbrev J3h : FuncId := 178
abbrev J5H : FuncId := 179
abbrev J7Z : FuncId := 180
abbrev J5R : FuncId := 184
abbrev J6l : FuncId := 185
abbrev J8O : FuncId := 186
abbrev J3L : FuncId := 191
abbrev J1h : FuncId := 195
abbrev J9x : FuncId := 196
abbrev J46 : FuncId := 216
abbrev J3p : FuncId := 219
abbrev J80 : FuncId := 220
def Jco : Jg := .seq (.reg false [] [⟨.mv (.t 0), some 12, none⟩,
  ⟨.build (J0 default) [(0, 1, (.t 12))], some 13, none⟩,
  ⟨.box 2 (.t 13), some 14, none⟩,
  ⟨.mv (.t 14), some 4, none⟩])
 (.ret)
def J8B : Jg := .seq (.reg false [] [⟨.mv (.c (.p .np)), some 4, none⟩])
 (.seq (.seq (.reg false [] [⟨.mv (.t 0), some 5, none⟩,
  ⟨.len false (.t 5), some 6, none⟩,
  ⟨.mv (.t 1), some 7, none⟩,
  ⟨.bin .gtr .plain (.t 6) (.t 7), some 8, none⟩])
 (.keep [0, 1, 8] (.cond (.t 8)
 (.reg false [] [⟨.mv (.t 0), some 9, none⟩,
   ⟨.mv (.t 1), some 10, none⟩,
   ⟨.slice (.sl 1) (.t 9) none (some (.t 10)) none, some 11, none⟩,
   ⟨.mv (.t 11), some 0, none⟩])
 (.skip))))
 (.keep [0] Jco))
def J7s : AFn := ⟨2, 15, J8B, [.tmp 4], false⟩
def J1l : Jg := .seq (.reg false [] [⟨.mv (.c (.p (.i .i64 0))), some 4, none⟩])
 (.seq (.seq (.reg true [] [⟨.mv (.t 0), some 6, none⟩,
  ⟨.nilchk (.t 6), some 7, none⟩,
  ⟨.faddr 1 (.t 7), some 8, none⟩,
  ⟨.load false 1 (.t 8), some 9, none⟩,
  ⟨.mv (.t 0), some 10, none⟩,
  ⟨.nilchk (.t 10), some 11, none⟩,
  ⟨.faddr 0 (.t 11), some 12, none⟩,
  ⟨.load false 1 (.t 12), some 13, none⟩,
  ⟨.len false (.t 13), some 14, none⟩,
  ⟨.bin .geq .plain (.t 9) (.t 14), some 15, none⟩,
  ⟨.mv (.t 15), some 16, none⟩,
  ⟨.mv (.t 1), some 17, some (16, false)⟩,
  ⟨.bin .lss .plain (.t 17) (.c (.p (.i .i64 1))), some 18, some (16, false)⟩,
  ⟨.pick (.t 16) (.c (.p (.b true))) (.t 18), some 19, none⟩])
 (.keep [0, 1, 19] (.cond (.t 19)
 (.seq (.reg false [] [⟨.mv (.c (.p (.i .i64 0))), some 4, none⟩])
  (.ret))
 (.skip))))
 (.seq (.reg true [] [⟨.mv (.t 0), some 20, none⟩,
  ⟨.nilchk (.t 20), some 21, none⟩,
  ⟨.faddr 0 (.t 21), some 22, none⟩,
  ⟨.load false 1 (.t 22), some 23, none⟩,
  ⟨.mv (.t 0), some 24, none⟩,
  ⟨.nilchk (.t 24), some 25, none⟩,
  ⟨.faddr 1 (.t 25), some 26, none⟩,
  ⟨.load false 1 (.t 26), some 27, none⟩,
  ⟨.iaddr 1 (.t 23) (.t 27), some 28, none⟩,
  ⟨.load false 1 (.t 28), some 29, none⟩,
  ⟨.conv (.int .i64) (.t 29), some 30, none⟩,
  ⟨.mv (.t 30), some 5, none⟩])
 (.keep [0, 1, 5] (.seq (.reg false [] [⟨.mv (.t 0), some 31, none⟩,
  ⟨.nilchk (.t 31), some 32, none⟩,
  ⟨.faddr 1 (.t 32), some 33, none⟩,
  ⟨.load false 1 (.t 33), some 34, none⟩,
  ⟨.bin .add .plain (.t 34) (.c (.p (.i .i64 1))), some 35, none⟩,
  ⟨.nilchk (.t 31), some 36, none⟩,
  ⟨.faddr 1 (.t 36), some 37, none⟩,
  ⟨.store 1 (.t 37) (.t 35), none, none⟩])
 (.keep [0, 1, 5] (.seq (.seq (.reg false [] [⟨.mv (.t 1), some 38, none⟩,
  ⟨.bin .gtr .plain (.t 38) (.c (.p (.i .i64 256))), some 39, none⟩])
 (.cond (.t 39)
 (.seq (.reg false [] [⟨.mv (.t 5), some 40, none⟩,
   ⟨.bin .mul .plain (.c (.p (.i .i64 256))) (.t 40), some 41, none⟩,
   ⟨.mv (.t 0), some 42, none⟩,
   ⟨.call Ji [(.t 42), (.c (.p (.i .i64 256)))] 0, some 43, none⟩,
   ⟨.bin .add .plain (.t 41) (.t 43), some 44, none⟩,
   ⟨.mv (.t 1), some 45, none⟩,
   ⟨.bin .rem .plain (.t 44) (.t 45), some 46, none⟩,
   ⟨.mv (.t 46), some 4, none⟩])
  (.ret))
 (.skip)))
 (.seq (.reg false [] [⟨.mv (.t 5), some 47, none⟩,
  ⟨.mv (.t 1), some 48, none⟩,
  ⟨.bin .rem .plain (.t 47) (.t 48), some 49, none⟩,
  ⟨.mv (.t 49), some 4, none⟩])
 (.ret))))))))
def J44 : AFn := ⟨2, 50, J1l, [.tmp 4], false⟩
def J1u : Jg := .seq (.seq (.reg false [] [⟨.mv (.t 5), some 10, none⟩,
  ⟨.mv (.t 3), some 11, none⟩,
  ⟨.len false (.t 11), some 12, none⟩,
  ⟨.bin .lss .plain (.t 10) (.t 12), some 13, none⟩])
 (.keep [0, 3, 4, 5, 13] (.cond (.t 13)
 (.skip)
 (.exit 0))))
 (.seq (.block 1 (.reg false [] [⟨.mv (.t 3), some 16, none⟩,
  ⟨.mv (.t 5), some 17, none⟩,
  ⟨.mv (.t 4), some 18, none⟩,
  ⟨.iaddr 1 (.t 16) (.t 17), some 19, none⟩,
  ⟨.store 1 (.t 19) (.t 18), none, none⟩]))
 (.reg false [] [⟨.mv (.t 5), some 14, none⟩,
  ⟨.bin .add .plain (.t 14) (.c (.p (.i .i64 1))), some 15, none⟩,
  ⟨.mv (.t 15), some 5, none⟩]))
def J26 : Jg := .seq (.reg false [] [⟨.mv (.t 3), some 20, none⟩,
  ⟨.mv (.t 0), some 21, none⟩,
  ⟨.call Ji [(.t 21), (.c (.p (.i .i64 256)))] 0, some 22, none⟩,
  ⟨.mv (.t 0), some 23, none⟩,
  ⟨.call Ji [(.t 23), (.c (.p (.i .i64 256)))] 0, some 24, none⟩,
  ⟨.conv (.int .u8) (.t 24), some 25, none⟩,
  ⟨.iaddr 1 (.t 20) (.t 22), some 26, none⟩,
  ⟨.store 1 (.t 26) (.t 25), none, none⟩])
 (.keep [3] (.seq (.reg false [] [⟨.mv (.t 3), some 27, none⟩,
  ⟨.conv .toStr (.t 27), some 28, none⟩,
  ⟨.mv (.t 28), some 2, none⟩])
 (.ret)))
def J4Z : Jg := .seq (.reg false [] [⟨.mv (.c (.p (.s []))), some 2, none⟩])
 (.seq (.reg false [] [⟨.mkslice true 1 1 [(.i .u8 0)] (.c (.p (.i .i64 256))) (.c (.p (.i .i64 256))), some 6, none⟩,
  ⟨.mv (.t 6), some 3, none⟩])
 (.seq (.reg false [] [⟨.mv (.t 0), some 7, none⟩,
  ⟨.call Ji [(.t 7), (.c (.p (.i .i64 256)))] 0, some 8, none⟩,
  ⟨.conv (.int .u8) (.t 8), some 9, none⟩,
  ⟨.mv (.t 9), some 4, none⟩])
 (.keep [0, 3, 4] (.seq (.seq (.reg false [] [⟨.mv (.c (.p (.i .i64 0))), some 5, none⟩])
 (.block 0 (.loop [0, 3, 4, 5] J1u)))
 (.keep [0, 3] J26)))))
def J0L : AFn := ⟨1, 29, J4Z, [.tmp 2], false⟩
def J1F : Jg := .seq (.seq (.reg false [] [⟨.mv (.t 5), some 15, none⟩,
  ⟨.mv (.t 3), some 16, none⟩,
  ⟨.bin .lss .plain (.t 15) (.t 16), some 17, none⟩])
 (.keep [0, 3, 4, 5, 17] (.cond (.t 17)
 (.skip)
 (.exit 0))))
 (.seq (.block 1 (.reg false [] [⟨.mv (.t 4), some 20, none⟩,
  ⟨.mv (.t 0), some 21, none⟩,
  ⟨.call Ji [(.t 21), (.c (.p (.i .i64 3)))] 0, some 22, none⟩,
  ⟨.bin .add .plain (.c (.p (.i .i64 97))) (.t 22), some 23, none⟩,
  ⟨.conv (.int .u8) (.t 23), some 24, none⟩,
  ⟨.lits false 1 1 [(.i .u8 0)] [(0, (.t 24))], some 25, none⟩,
  ⟨.app 1 1 [(.i .u8 0)] (.t 20) (.t 25), some 26, none⟩,
  ⟨.mv (.t 26), some 4, none⟩]))
 (.reg false [] [⟨.mv (.t 5), some 18, none⟩,
  ⟨.bin .add .plain (.t 18) (.c (.p (.i .i64 1))), some 19, none⟩,
  ⟨.mv (.t 19), some 5, none⟩]))
def J2o : Jg := .seq (.reg false [] [⟨.mv (.t 4), some 27, none⟩,
  ⟨.conv .toStr (.t 27), some 28, none⟩,
  ⟨.mv (.t 28), some 2, none⟩])
 (.ret)
def J84 : Jg := .seq (.reg false [] [⟨.mv (.t 3), some 13, none⟩,
  ⟨.mkslice true 1 1 [(.i .u8 0)] (.c (.p (.i .i64 0))) (.t 13), some 14, none⟩,
  ⟨.mv (.t 14), some 4, none⟩])
 (.keep [0, 3, 4] (.seq (.seq (.reg false [] [⟨.mv (.c (.p (.i .i64 0))), some 5, none⟩])
 (.block 0 (.loop [0, 3, 4, 5] J1F)))
 (.keep [4] J2o)))
def J2Y : Jg := .seq (.reg false [] [⟨.mv (.c (.p (.s []))), some 2, none⟩])
 (.seq (.reg false [] [⟨.mv (.t 0), some 6, none⟩,
  ⟨.call Ji [(.t 6), (.c (.p (.i .i64 5)))] 0, some 7, none⟩,
  ⟨.mv (.t 7), some 3, none⟩])
 (.keep [0, 3] (.seq (.seq (.reg false [] [⟨.mv (.t 0), some 8, none⟩,
  ⟨.call Ji [(.t 8), (.c (.p (.i .i64 6)))] 0, some 9, none⟩,
  ⟨.bin .eql .plain (.t 9) (.c (.p (.i .i64 0))), some 10, none⟩])
 (.keep [0, 3, 10] (.cond (.t 10)
 (.reg false [] [⟨.mv (.t 0), some 11, none⟩,
   ⟨.call Ji [(.t 11), (.c (.p (.i .i64 14)))] 0, some 12, none⟩,
   ⟨.mv (.t 12), some 3, none⟩])
 (.skip))))
 (.keep [0, 3] J84))))
def J0E : AFn := ⟨1, 29, J2Y, [.tmp 2], false⟩
def J4o : Jg := .seq (.seq (.reg false [] [⟨.mv (.t 7), some 15, none⟩,
  ⟨.mv (.t 2), some 16, none⟩,
  ⟨.bin .lss .plain (.t 15) (.t 16), some 17, none⟩])
 (.keep [0, 1, 2, 7, 17] (.cond (.t 17)
 (.skip)
 (.exit 0))))
 (.seq (.block 1 (.reg false [] [⟨.mv (.t 0), some 20, none⟩,
  ⟨.mv (.t 1), some 21, none⟩,
  ⟨.conv (.int .u64) (.t 21), some 22, none⟩,
  ⟨.mv (.t 7), some 23, none⟩,
  ⟨.bin .mul .plain (.c (.p (.i .i64 8))) (.t 23), some 24, none⟩,
  ⟨.conv (.int .u64) (.t 24), some 25, none⟩,
  ⟨.bin .shr .plain (.t 22) (.t 25), some 26, none⟩,
  ⟨.conv (.int .u8) (.t 26), some 27, none⟩,
  ⟨.lits false 1 1 [(.i .u8 0)] [(0, (.t 27))], some 28, none⟩,
  ⟨.conv .toStr (.t 28), some 29, none⟩,
  ⟨.bin .add .plain (.t 20) (.t 29), some 30, none⟩,
  ⟨.mv (.t 30), some 0, none⟩]))
 (.reg false [] [⟨.mv (.t 7), some 18, none⟩,
  ⟨.bin .add .plain (.t 18) (.c (.p (.i .i64 1))), some 19, none⟩,
  ⟨.mv (.t 19), some 7, none⟩]))
def J5n : Jg := .seq (.reg false [] [⟨.mv (.t 0), some 31, none⟩,
  ⟨.mv (.t 31), some 6, none⟩])
 (.ret)
def J5C : Jg := .seq (.reg false [] [⟨.mv (.c (.p (.s []))), some 6, none⟩])
 (.seq (.seq (.reg false [] [⟨.mv (.t 2), some 8, none⟩,
  ⟨.bin .lss .plain (.t 8) (.c (.p (.i .i64 1))), some 9, none⟩,
  ⟨.mv (.t 9), some 10, none⟩,
  ⟨.mv (.t 2), some 11, some (10, false)⟩,
  ⟨.bin .gtr .plain (.t 11) (.c (.p (.i .i64 8))), some 12, some (10, false)⟩,
  ⟨.pick (.t 10) (.c (.p (.b true))) (.t 12), some 13, none⟩])
 (.keep [0, 1, 2, 13] (.cond (.t 13)
 (.seq (.reg false [] [⟨.mv (.t 0), some 14, none⟩,
   ⟨.mv (.t 14), some 6, none⟩])
  (.ret))
 (.skip))))
 (.seq (.seq (.reg false [] [⟨.mv (.c (.p (.i .i64 0))), some 7, none⟩])
 (.block 0 (.loop [0, 1, 2, 7] J4o)))
 (.keep [0] J5n)))
def J3k : AFn := ⟨3, 32, J5C, [.tmp 6], false⟩
def J4r : Jg := .seq (.reg false [] [⟨.bin .lss .plain (.t 35) (.t 34), some 36, none⟩])
 (.seq (.cond (.t 36)
 (.skip)
 (.exit 1))
 (.seq (.block 2 (.seq (.reg false [] [⟨.mv (.t 35), some 37, none⟩,
  ⟨.mv (.t 37), some 9, none⟩])
 (.reg false [] [⟨.mv (.t 8), some 38, none⟩,
  ⟨.mv (.t 0), some 39, none⟩,
  ⟨.mv (.t 1), some 40, none⟩,
  ⟨.mv (.t 9), some 41, none⟩,
  ⟨.bin .add .plain (.t 40) (.t 41), some 42, none⟩,
  ⟨.sidx (.t 39) (.t 42), some 43, none⟩,
  ⟨.conv (.int .u64) (.t 43), some 44, none⟩,
  ⟨.mv (.t 9), some 45, none⟩,
  ⟨.bin .mul .plain (.c (.p (.i .i64 8))) (.t 45), some 46, none⟩,
  ⟨.bin .shl .plain (.t 44) (.t 46), some 47, none⟩,
  ⟨.bin .or .plain (.t 38) (.t 47), some 48, none⟩,
  ⟨.mv (.t 48), some 8, none⟩])))
 (.reg false [] [⟨.bin .add .plain (.t 35) (.c (.p (.i .i64 1))), some 49, none⟩,
  ⟨.mv (.t 49), some 35, none⟩])))
def J5m : Jg := .seq (.reg false [] [⟨.mv (.t 8), some 50, none⟩,
  ⟨.conv (.int .i64) (.t 50), some 51, none⟩,
  ⟨.mv (.t 51), some 6, none⟩,
  ⟨.mv (.c (.p (.i .i64 0))), some 7, none⟩])
 (.ret)
def J1R : Jg := .seq (.reg false [] [⟨.mv (.c (.p (.i .i64 0))), some 6, none⟩,
  ⟨.mv (.c (.p (.i .i64 0))), some 7, none⟩])
 (.seq (.block 0 (.seq (.reg false [] [⟨.mv (.t 2), some 11, none⟩,
  ⟨.bin .lss .plain (.t 11) (.c (.p (.i .i64 1))), some 12, none⟩,
  ⟨.mv (.t 12), some 13, none⟩,
  ⟨.mv (.t 2), some 14, some (13, false)⟩,
  ⟨.bin .gtr .plain (.t 14) (.c (.p (.i .i64 8))), some 15, some (13, false)⟩,
  ⟨.pick (.t 13) (.c (.p (.b true))) (.t 15), some 16, none⟩,
  ⟨.mv (.t 16), some 17, none⟩,
  ⟨.mv (.t 1), some 18, some (17, false)⟩,
  ⟨.bin .lss .plain (.t 18) (.c (.p (.i .i64 0))), some 19, some (17, false)⟩,
  ⟨.pick (.t 17) (.c (.p (.b true))) (.t 19), some 20, none⟩,
  ⟨.mv (.t 20), some 10, none⟩])
 (.keep [0, 1, 2, 10] (.cond (.t 10)
 (.seq (.reg false [] [⟨.mv (.c (.p (.i .i64 0))), some 6, none⟩,
   ⟨.mv (.c (.p (.i .i64 1))), some 7, none⟩])
  (.ret))
 (.seq (.reg false [] [⟨.mv (.t 1), some 22, none⟩,
   ⟨.mv (.t 0), some 23, none⟩,
   ⟨.len true (.t 23), some 24, none⟩,
   ⟨.bin .gtr .plain (.t 22) (.t 24), some 25, none⟩,
   ⟨.mv (.t 25), some 26, none⟩,
   ⟨.mv (.t 0), some 27, some (26, false)⟩,
   ⟨.len true (.t 27), some 28, some (26, false)⟩,
   ⟨.mv (.t 1), some 29, some (26, false)⟩,
   ⟨.bin .sub .plain (.t 28) (.t 29), some 30, some (26, false)⟩,
   ⟨.mv (.t 2), some 31, some (26, false)⟩,
   ⟨.bin .lss .plain (.t 30) (.t 31), some 32, some (26, false)⟩,
   ⟨.pick (.t 26) (.c (.p (.b true))) (.t 32), some 33, none⟩,
   ⟨.mv (.t 33), some 21, none⟩])
  (.keep [0, 1, 2, 21] (.cond (.t 21)
  (.seq (.reg false [] [⟨.mv (.c (.p (.i .i64 0))), some 6, none⟩,
    ⟨.mv (.c (.p (.i .i64 5))), some 7, none⟩])
   (.ret))
  (.skip))))))))
 (.seq (.reg false [] [⟨.mv (.c (.p (.i .u64 0))), some 8, none⟩])
 (.seq (.seq (.reg false [] [⟨.mv (.t 2), some 34, none⟩,
  ⟨.mv (.c (.p (.i .i64 0))), some 35, none⟩])
 (.block 1 (.loop [0, 1, 8, 34, 35] J4r)))
 (.keep [8] J5m))))
def J3e : AFn := ⟨3, 52, J1R, [.tmp 6, .tmp 7], false⟩
def J2X : Jg := .seq (.reg false [] [⟨.newbox (Jf default), some 2, none⟩])
 (.seq (.seq (.reg false [] [⟨.mv (.t 0), some 4, none⟩,
  ⟨.call Ji [(.t 4), (.c (.p (.i .i64 3)))] 0, some 5, none⟩,
  ⟨.bin .eql .plain (.t 5) (.c (.p (.i .i64 0))), some 6, none⟩])
 (.keep [0, 2, 6] (.cond (.t 6)
 (.seq (.reg false [] [⟨.build (Jf default) [], some 7, none⟩,
   ⟨.store 2 (.t 2) (.t 7), none, none⟩])
  (.ret))
 (.skip))))
 (.seq (.reg false [] [⟨.mv (.t 0), some 8, none⟩,
  ⟨.call J45 [(.t 8)] 0, some 9, none⟩,
  ⟨.mv (.t 9), some 3, none⟩])
 (.keep [2, 3] (.seq (.reg false [] [⟨.mv (.t 3), some 10, none⟩,
  ⟨.mv (.t 3), some 11, none⟩,
  ⟨.len true (.t 11), some 12, none⟩,
  ⟨.mm false (.t 12) (.c (.p (.i .i64 12))), some 13, none⟩,
  ⟨.slice .str (.t 10) none (some (.t 13)) none, some 14, none⟩,
  ⟨.build (Jf default) [(0, 1, (.c (.p (.b true)))), (1, 1, (.t 14))], some 15, none⟩,
  ⟨.store 2 (.t 2) (.t 15), none, none⟩])
 (.ret)))))
def J48 : AFn := ⟨1, 16, J2X, [.cell 2 true 2], false⟩
def J7M : Jg := .seq (.reg false [] [⟨.mv (.c (.p (.s []))), some 2, none⟩])
 (.seq (.reg false [] [⟨.mv (.t 0), some 3, none⟩,
  ⟨.mkslice false 1 1 [(.i .u8 0)] (.t 3) (.t 3), some 4, none⟩,
  ⟨.conv .toStr (.t 4), some 5, none⟩,
  ⟨.mv (.t 5), some 2, none⟩])
 (.ret))
def J6c : AFn := ⟨1, 6, J7M, [.tmp 2], false⟩
def Jbl : Jg := .reg false [] [⟨.mv (.t 5), some 20, none⟩,
  ⟨.bin .add .plain (.t 20) (.c (.p (.i .i64 1))), some 21, none⟩,
  ⟨.mv (.t 21), some 5, none⟩]
def J2d : Jg := .seq (.seq (.reg false [] [⟨.mv (.t 5), some 18, none⟩,
  ⟨.bin .lss .plain (.t 18) (.c (.p (.i .i64 8))), some 19, none⟩])
 (.cond (.t 19)
 (.skip)
 (.exit 2)))
 (.seq (.block 3 (.seq (.reg false [] [⟨.mv (.t 3), some 22, none⟩,
  ⟨.bin .and .plain (.t 22) (.c (.p (.i .u32 1))), some 23, none⟩,
  ⟨.bin .eql .plain (.t 23) (.c (.p (.i .u32 1))), some 24, none⟩])
 (.keep [0, 3, 4, 5, 24] (.cond (.t 24)
 (.reg false [] [⟨.mv (.t 3), some 25, none⟩,
   ⟨.bin .shr .plain (.t 25) (.c (.p (.i .u64 1))), some 26, none⟩,
   ⟨.bin .xor .plain (.t 26) (.c (.p (.i .u32 2197175160))), some 27, none⟩,
   ⟨.mv (.t 27), some 3, none⟩])
 (.reg false [] [⟨.mv (.t 3), some 28, none⟩,
   ⟨.bin .shr .plain (.t 28) (.c (.p (.i .u64 1))), some 29, none⟩,
   ⟨.mv (.t 29), some 3, none⟩])))))
 (.keep [0, 3, 4, 5] Jbl))
def J4n : Jg := .reg false [] [⟨.mv (.t 4), some 10, none⟩,
  ⟨.bin .add .plain (.t 10) (.c (.p (.i .i64 1))), some 11, none⟩,
  ⟨.mv (.t 11), some 4, none⟩]
def J15 : Jg := .seq (.seq (.reg false [] [⟨.mv (.t 4), some 6, none⟩,
  ⟨.mv (.t 0), some 7, none⟩,
  ⟨.len true (.t 7), some 8, none⟩,
  ⟨.bin .lss .plain (.t 6) (.t 8), some 9, none⟩])
 (.keep [0, 3, 4, 9] (.cond (.t 9)
 (.skip)
 (.exit 0))))
 (.seq (.block 1 (.seq (.reg false [] [⟨.mv (.t 3), some 12, none⟩,
  ⟨.mv (.t 0), some 13, none⟩,
  ⟨.mv (.t 4), some 14, none⟩,
  ⟨.sidx (.t 13) (.t 14), some 15, none⟩,
  ⟨.conv (.int .u32) (.t 15), some 16, none⟩,
  ⟨.bin .xor .plain (.t 12) (.t 16), some 17, none⟩,
  ⟨.mv (.t 17), some 3, none⟩])
 (.keep [0, 3, 4] (.seq (.reg false [] [⟨.mv (.c (.p (.i .i64 0))), some 5, none⟩])
 (.block 2 (.loop [0, 3, 4, 5] J2d))))))
 (.keep [0, 3, 4] J4n))
def J1o : Jg := .seq (.reg false [] [⟨.mv (.t 3), some 30, none⟩,
  ⟨.un .xor (.t 30), some 31, none⟩,
  ⟨.mv (.t 31), some 2, none⟩])
 (.ret)
def J8Z : Jg := .seq (.reg false [] [⟨.mv (.c (.p (.i .u32 0))), some 2, none⟩])
 (.seq (.reg false [] [⟨.mv (.c (.p (.i .u32 4294967295))), some 3, none⟩])
 (.seq (.seq (.reg false [] [⟨.mv (.c (.p (.i .i64 0))), some 4, none⟩])
 (.block 0 (.loop [0, 3, 4] J15)))
 (.keep [3] J1o)))
def J0X : AFn := ⟨1, 32, J8Z, [.tmp 2], false⟩
def J0j : Jg := .seq (.reg false [] [⟨.bin .lss .plain (.t 7) (.c (.p (.i .i64 16))), some 8, none⟩])
 (.seq (.cond (.t 8)
 (.skip)
 (.exit 0))
 (.seq (.block 1 (.seq (.reg false [] [⟨.aidx true 16 2 (.t 6) (.t 7), some 9, none⟩,
  ⟨.newbox (Jf default), some 4, none⟩,
  ⟨.store 2 (.t 4) (.t 9), none, none⟩])
 (.keep [1, 4, 6, 7] (.seq (.reg false [] [⟨.faddr 1 (.t 4), some 10, none⟩,
  ⟨.load false 1 (.t 10), some 11, none⟩,
  ⟨.len true (.t 11), some 12, none⟩,
  ⟨.bin .gtr .plain (.t 12) (.c (.p (.i .i64 12))), some 13, none⟩,
  ⟨.mv (.t 13), some 14, none⟩,
  ⟨.faddr 0 (.t 4), some 15, some (14, false)⟩,
  ⟨.load false 1 (.t 15), some 16, some (14, false)⟩,
  ⟨.un .not (.t 16), some 17, some (14, false)⟩,
  ⟨.mv (.t 17), some 18, some (14, false)⟩,
  ⟨.faddr 1 (.t 4), some 19, some (18, true)⟩,
  ⟨.load false 1 (.t 19), some 20, some (18, true)⟩,
  ⟨.bin .neq .plain (.t 20) (.c (.p (.s []))), some 21, some (18, true)⟩,
  ⟨.pick (.t 18) (.t 21) (.c (.p (.b false))), some 22, some (14, false)⟩,
  ⟨.pick (.t 14) (.c (.p (.b true))) (.t 22), some 23, none⟩,
  ⟨.mv (.t 23), some 24, none⟩,
  ⟨.faddr 0 (.t 4), some 25, some (24, false)⟩,
  ⟨.load false 1 (.t 25), some 26, some (24, false)⟩,
  ⟨.mv (.t 26), some 27, some (24, false)⟩,
  ⟨.faddr 1 (.t 1), some 28, some (27, true)⟩,
  ⟨.load false 1 (.t 28), some 29, some (27, true)⟩,
  ⟨.bin .eql .plain (.t 29) (.c (.p (.i .i64 0))), some 30, some (27, true)⟩,
  ⟨.pick (.t 27) (.t 30) (.c (.p (.b false))), some 31, some (24, false)⟩,
  ⟨.pick (.t 24) (.c (.p (.b true))) (.t 31), some 32, none⟩])
 (.keep [1, 6, 7, 32] (.cond (.t 32)
 (.seq (.reg false [] [⟨.mv (.c (.p (.b false))), some 2, none⟩])
  (.ret))
 (.skip)))))))
 (.reg false [] [⟨.bin .add .plain (.t 7) (.c (.p (.i .i64 1))), some 33, none⟩,
  ⟨.mv (.t 33), some 7, none⟩])))
def J4K : Jg := .seq (.reg false [] [⟨.mv (.c (.p (.b true))), some 2, none⟩])
 (.ret)
def J8y : Jg := .seq (.reg false [] [⟨.box 34 (.t 0), some 1, none⟩,
  ⟨.mv (.c (.p (.b false))), some 2, none⟩])
 (.seq (.tidy [2] (.seq (.reg false [] [⟨.faddr 2 (.t 1), some 5, none⟩,
  ⟨.load true 32 (.t 5), some 6, none⟩,
  ⟨.mv (.c (.p (.i .i64 0))), some 7, none⟩])
 (.keep [1, 6, 7] (.block 0 (.loop [1, 6, 7] J0j)))))
 (.keep [] J4K))
def J2F : AFn := ⟨1, 34, J8y, [.tmp 2], false⟩
def JG : Jg := .seq (.reg false [] [⟨.bin .lss .plain (.t 13) (.t 12), some 14, none⟩])
 (.seq (.cond (.t 14)
 (.skip)
 (.exit 0))
 (.seq (.block 1 (.seq (.reg false [] [⟨.mv (.t 13), some 15, none⟩,
  ⟨.mv (.t 15), some 5, none⟩])
 (.seq (.reg true [] [⟨.mv (.t 0), some 16, none⟩,
  ⟨.mv (.t 5), some 17, none⟩,
  ⟨.iaddr 3 (.t 16) (.t 17), some 18, none⟩,
  ⟨.load true 3 (.t 18), some 19, none⟩,
  ⟨.mv (.t 1), some 20, none⟩,
  ⟨.mv (.t 5), some 21, none⟩,
  ⟨.iaddr 3 (.t 20) (.t 21), some 22, none⟩,
  ⟨.load true 3 (.t 22), some 23, none⟩,
  ⟨.bin .neq (.flat [(.i .i64), (.i .i64), .s]) (.t 19) (.t 23), some 24, none⟩])
 (.keep [0, 1, 12, 13, 24] (.cond (.t 24)
 (.seq (.reg false [] [⟨.mv (.c (.p (.b false))), some 4, none⟩])
  (.ret))
 (.skip))))))
 (.reg false [] [⟨.bin .add .plain (.t 13) (.c (.p (.i .i64 1))), some 25, none⟩,
  ⟨.mv (.t 25), some 13, none⟩])))
def J01 : Jg := .seq (.reg false [] [⟨.mv (.c (.p (.b true))), some 4, none⟩])
 (.ret)
def J0D : Jg := .seq (.reg false [] [⟨.mv (.c (.p (.b false))), some 4, none⟩])
 (.seq (.seq (.reg false [] [⟨.mv (.t 0), some 6, none⟩,
  ⟨.len false (.t 6), some 7, none⟩,
  ⟨.mv (.t 1), some 8, none⟩,
  ⟨.len false (.t 8), some 9, none⟩,
  ⟨.bin .neq .plain (.t 7) (.t 9), some 10, none⟩])
 (.keep [0, 1, 10] (.cond (.t 10)
 (.seq (.reg false [] [⟨.mv (.c (.p (.b false))), some 4, none⟩])
  (.ret))
 (.skip))))
 (.seq (.seq (.reg false [] [⟨.mv (.t 0), some 11, none⟩,
  ⟨.len false (.t 11), some 12, none⟩,
  ⟨.mv (.c (.p (.i .i64 0))), some 13, none⟩])
 (.keep [0, 1, 12, 13] (.block 0 (.loop [0, 1, 12, 13] JG))))
 (.keep [] J01)))
def JC : AFn := ⟨2, 26, J0D, [.tmp 4], false⟩
def J5O : Jcd := ⟨1, 8, .reg false [] [⟨.mkarr 3 (.c (.p (.sl 3 []))), some 2, none⟩], [], .reg false [] [⟨.mv (.t 0), some 3, none⟩,
  ⟨.bin .eql .nils (.t 3) (.c (.p (.sl 3 []))), some 4, none⟩], (.t 4),
 .seq (.reg false [] [⟨.mkarr 3 (.c (.p (.sl 3 []))), some 2, none⟩])
 (.ret),
 .skip,
 .seq (.reg false [] [⟨.lits true 3 0 (J5 default) [], some 5, none⟩,
  ⟨.mv (.t 0), some 6, none⟩,
  ⟨.app 3 32 (J5 default) (.t 5) (.t 6), some 7, none⟩,
  ⟨.mv (.t 7), some 2, none⟩])
 (.ret), [.tmp 2], true⟩
def J1S : Jg := .seq (.reg false [] [⟨.box 34 (.t 0), some 1, none⟩,
  ⟨.mv (.c (.p (.b false))), some 2, none⟩])
 (.seq (.reg false [] [⟨.faddr 0 (.t 1), some 3, none⟩,
  ⟨.load false 1 (.t 3), some 4, none⟩,
  ⟨.bin .geq .plain (.t 4) (.c (.p (.i .i64 0))), some 5, none⟩,
  ⟨.mv (.t 5), some 6, none⟩,
  ⟨.faddr 0 (.t 1), some 7, some (6, true)⟩,
  ⟨.load false 1 (.t 7), some 8, some (6, true)⟩,
  ⟨.bin .lss .plain (.t 8) (.c (.p (.i .i64 64))), some 9, some (6, true)⟩,
  ⟨.pick (.t 6) (.t 9) (.c (.p (.b false))), some 10, none⟩,
  ⟨.mv (.t 10), some 11, none⟩,
  ⟨.faddr 1 (.t 1), some 12, some (11, true)⟩,
  ⟨.load false 1 (.t 12), some 13, some (11, true)⟩,
  ⟨.bin .geq .plain (.t 13) (.c (.p (.i .i64 0))), some 14, some (11, true)⟩,
  ⟨.pick (.t 11) (.t 14) (.c (.p (.b false))), some 15, none⟩,
  ⟨.mv (.t 15), some 16, none⟩,
  ⟨.faddr 1 (.t 1), some 17, some (16, true)⟩,
  ⟨.load false 1 (.t 17), some 18, some (16, true)⟩,
  ⟨.bin .leq .plain (.t 18) (.c (.p (.i .i64 1099511627776))), some 19, some (16, true)⟩,
  ⟨.pick (.t 16) (.t 19) (.c (.p (.b false))), some 20, none⟩,
  ⟨.mv (.t 20), some 2, none⟩])
 (.ret))
def J53 : AFn := ⟨1, 21, J1S, [.tmp 2], false⟩
def J0C : Jg := .seq (.reg false [] [⟨.mv (.c (.p (.b false))), some 4, none⟩])
 (.seq (.reg false [] [⟨.mv (.t 0), some 5, none⟩,
  ⟨.len true (.t 5), some 6, none⟩,
  ⟨.mv (.t 1), some 7, none⟩,
  ⟨.len true (.t 7), some 8, none⟩,
  ⟨.bin .geq .plain (.t 6) (.t 8), some 9, none⟩,
  ⟨.mv (.t 9), some 10, none⟩,
  ⟨.mv (.t 0), some 11, some (10, true)⟩,
  ⟨.mv (.t 1), some 12, some (10, true)⟩,
  ⟨.len true (.t 12), some 13, some (10, true)⟩,
  ⟨.slice .str (.t 11) none (some (.t 13)) none, some 14, some (10, true)⟩,
  ⟨.mv (.t 1), some 15, some (10, true)⟩,
  ⟨.bin .eql .plain (.t 14) (.t 15), some 16, some (10, true)⟩,
  ⟨.pick (.t 10) (.t 16) (.c (.p (.b false))), some 17, none⟩,
  ⟨.mv (.t 17), some 4, none⟩])
 (.ret))
def J0u : AFn := ⟨2, 18, J0C, [.tmp 4], false⟩
def J4j : Jg := .seq (.seq (.reg false [] [⟨.mv (.t 9), some 32, none⟩,
  ⟨.mv (.t 2), some 33, none⟩,
  ⟨.bin .lss .plain (.t 32) (.t 33), some 34, none⟩])
 (.keep [0, 1, 2, 8, 9, 34] (.cond (.t 34)
 (.skip)
 (.exit 0))))
 (.seq (.block 1 (.reg false [] [⟨.mv (.t 8), some 37, none⟩,
  ⟨.mv (.t 0), some 38, none⟩,
  ⟨.mv (.t 1), some 39, none⟩,
  ⟨.mv (.t 9), some 40, none⟩,
  ⟨.bin .add .plain (.t 39) (.t 40), some 41, none⟩,
  ⟨.sidx (.t 38) (.t 41), some 42, none⟩,
  ⟨.conv (.int .u64) (.t 42), some 43, none⟩,
  ⟨.mv (.t 9), some 44, none⟩,
  ⟨.bin .mul .plain (.c (.p (.i .i64 8))) (.t 44), some 45, none⟩,
  ⟨.conv (.int .u64) (.t 45), some 46, none⟩,
  ⟨.bin .shl .plain (.t 43) (.t 46), some 47, none⟩,
  ⟨.bin .or .plain (.t 37) (.t 47), some 48, none⟩,
  ⟨.mv (.t 48), some 8, none⟩]))
 (.reg false [] [⟨.mv (.t 9), some 35, none⟩,
  ⟨.bin .add .plain (.t 35) (.c (.p (.i .i64 1))), some 36, none⟩,
  ⟨.mv (.t 36), some 9, none⟩]))
def J5a : Jg := .seq (.reg false [] [⟨.mv (.t 8), some 49, none⟩,
  ⟨.conv (.int .i64) (.t 49), some 50, none⟩,
  ⟨.mv (.t 50), some 6, none⟩,
  ⟨.mv (.c (.p (.i .i64 0))), some 7, none⟩])
 (.ret)
def J1U : Jg := .seq (.reg false [] [⟨.mv (.c (.p (.i .i64 0))), some 6, none⟩,
  ⟨.mv (.c (.p (.i .i64 0))), some 7, none⟩])
 (.seq (.seq (.reg false [] [⟨.mv (.t 2), some 10, none⟩,
  ⟨.bin .lss .plain (.t 10) (.c (.p (.i .i64 1))), some 11, none⟩,
  ⟨.mv (.t 11), some 12, none⟩,
  ⟨.mv (.t 2), some 13, some (12, false)⟩,
  ⟨.bin .gtr .plain (.t 13) (.c (.p (.i .i64 8))), some 14, some (12, false)⟩,
  ⟨.pick (.t 12) (.c (.p (.b true))) (.t 14), some 15, none⟩,
  ⟨.mv (.t 15), some 16, none⟩,
  ⟨.mv (.t 1), some 17, some (16, false)⟩,
  ⟨.bin .lss .plain (.t 17) (.c (.p (.i .i64 0))), some 18, some (16, false)⟩,
  ⟨.pick (.t 16) (.c (.p (.b true))) (.t 18), some 19, none⟩])
 (.keep [0, 1, 2, 19] (.cond (.t 19)
 (.seq (.reg false [] [⟨.mv (.c (.p (.i .i64 0))), some 6, none⟩,
   ⟨.mv (.c (.p (.i .i64 1))), some 7, none⟩])
  (.ret))
 (.skip))))
 (.seq (.seq (.reg false [] [⟨.mv (.t 1), some 20, none⟩,
  ⟨.mv (.t 0), some 21, none⟩,
  ⟨.len true (.t 21), some 22, none⟩,
  ⟨.bin .gtr .plain (.t 20) (.t 22), some 23, none⟩,
  ⟨.mv (.t 23), some 24, none⟩,
  ⟨.mv (.t 0), some 25, some (24, false)⟩,
  ⟨.len true (.t 25), some 26, some (24, false)⟩,
  ⟨.mv (.t 1), some 27, some (24, false)⟩,
  ⟨.bin .sub .plain (.t 26) (.t 27), some 28, some (24, false)⟩,
  ⟨.mv (.t 2), some 29, some (24, false)⟩,
  ⟨.bin .lss .plain (.t 28) (.t 29), some 30, some (24, false)⟩,
  ⟨.pick (.t 24) (.c (.p (.b true))) (.t 30), some 31, none⟩])
 (.keep [0, 1, 2, 31] (.cond (.t 31)
 (.seq (.reg false [] [⟨.mv (.c (.p (.i .i64 0))), some 6, none⟩,
   ⟨.mv (.c (.p (.i .i64 5))), some 7, none⟩])
  (.ret))
 (.skip))))
 (.seq (.reg false [] [⟨.mv (.c (.p (.i .u64 0))), some 8, none⟩])
 (.seq (.seq (.reg false [] [⟨.mv (.c (.p (.i .i64 0))), some 9, none⟩])
 (.block 0 (.loop [0, 1, 2, 8, 9] J4j)))
 (.keep [8] J5a)))))
def J3i : AFn := ⟨3, 51, J1U, [.tmp 6, .tmp 7], false⟩
def J97 : Jg := .seq (.reg false [] [⟨.newbox (J3 default), some 2, none⟩])
 (.seq (.reg false [] [⟨.mv (.t 0), some 3, none⟩,
  ⟨.build (J3 default) [(0, 1, (.t 3))], some 4, none⟩,
  ⟨.store 34 (.t 2) (.t 4), none, none⟩])
 (.ret))
def J7S : AFn := ⟨1, 5, J97, [.cell 2 true 34], false⟩
def J76 : Jg := .seq (.reg false [] [⟨.mv (.c (.p (.b false))), some 2, none⟩])
 (.seq (.reg false [] [⟨.mv (.t 0), some 3, none⟩,
  ⟨.bin .geq .plain (.t 3) (.c (.p (.i .i64 0))), some 4, none⟩,
  ⟨.mv (.t 4), some 5, none⟩,
  ⟨.mv (.t 0), some 6, some (5, true)⟩,
  ⟨.bin .lss .plain (.t 6) (.c (.p (.i .i64 64))), some 7, some (5, true)⟩,
  ⟨.pick (.t 5) (.t 7) (.c (.p (.b false))), some 8, none⟩,
  ⟨.mv (.t 8), some 2, none⟩])
 (.ret))
def J7d : AFn := ⟨1, 9, J76, [.tmp 2], false⟩
def Jaf : Jg := .seq (.reg false [] [⟨.newbox (J3 default), some 2, none⟩])
 (.seq (.reg false [] [⟨.mv (.t 0), some 3, none⟩,
  ⟨.build (J3 default) [(0, 1, (.t 3))], some 4, none⟩,
  ⟨.store 34 (.t 2) (.t 4), none, none⟩])
 (.ret))
def J8K : AFn := ⟨1, 5, Jaf, [.cell 2 true 34], false⟩
def J0G : Jg := .seq (.reg false [] [⟨.bin .lss .plain (.t 9) (.c (.p (.i .i64 4))), some 10, none⟩])
 (.seq (.cond (.t 10)
 (.skip)
 (.exit 2))
 (.seq (.block 3 (.seq (.reg false [] [⟨.mv (.t 3), some 11, none⟩,
  ⟨.bin .and .plain (.t 11) (.c (.p (.i .u32 1))), some 12, none⟩,
  ⟨.bin .eql .plain (.t 12) (.c (.p (.i .u32 1))), some 13, none⟩])
 (.keep [0, 1, 2, 3, 4, 9, 13] (.cond (.t 13)
 (.reg false [] [⟨.mv (.t 3), some 14, none⟩,
   ⟨.bin .shr .plain (.t 14) (.c (.p (.i .u64 1))), some 15, none⟩,
   ⟨.bin .xor .plain (.t 15) (.c (.p (.i .u32 2197175160))), some 16, none⟩,
   ⟨.mv (.t 16), some 3, none⟩])
 (.reg false [] [⟨.mv (.t 3), some 17, none⟩,
   ⟨.bin .shr .plain (.t 17) (.c (.p (.i .u64 1))), some 18, none⟩,
   ⟨.mv (.t 18), some 3, none⟩])))))
 (.reg false [] [⟨.bin .add .plain (.t 9) (.c (.p (.i .i64 1))), some 19, none⟩,
  ⟨.mv (.t 19), some 9, none⟩])))
def J21 : Jg := .reg false [] [⟨.mv (.t 2), some 20, none⟩,
  ⟨.mv (.t 3), some 21, none⟩,
  ⟨.aaddr 16 1 (.t 1) (.t 20), some 22, none⟩,
  ⟨.store 1 (.t 22) (.t 21), none, none⟩]
def J1z : Jg := .reg false [] [⟨.bin .add .plain (.t 4) (.c (.p (.i .i64 1))), some 23, none⟩,
  ⟨.mv (.t 23), some 4, none⟩]
def JX : Jg := .seq (.reg false [] [⟨.bin .lss .plain (.t 4) (.c (.p (.i .i64 16))), some 5, none⟩])
 (.seq (.cond (.t 5)
 (.skip)
 (.exit 0))
 (.seq (.block 1 (.seq (.reg false [] [⟨.mv (.t 4), some 6, none⟩,
  ⟨.mv (.t 6), some 2, none⟩])
 (.seq (.reg false [] [⟨.mv (.t 2), some 7, none⟩,
  ⟨.conv (.int .u32) (.t 7), some 8, none⟩,
  ⟨.mv (.t 8), some 3, none⟩])
 (.keep [0, 1, 2, 3, 4] (.seq (.seq (.reg false [] [⟨.mv (.c (.p (.i .i64 0))), some 9, none⟩])
 (.block 2 (.loop [0, 1, 2, 3, 4, 9] J0G)))
 (.keep [0, 1, 2, 3, 4] J21))))))
 (.keep [0, 1, 4] J1z)))
def J00 : Jg := .seq (.reg false [] [⟨.load true 16 (.t 1), some 24, none⟩,
  ⟨.store 16 (.t 0) (.t 24), none, none⟩])
 (.ret)
def J51 : Jg := .seq (.reg false [] [⟨.newbox (JU (r_i .u32) (Vector.replicate 16 (0 : Int))), some 0, none⟩])
 (.seq (.reg false [] [⟨.newbox (JU (r_i .u32) (Vector.replicate 16 (0 : Int))), some 1, none⟩])
 (.seq (.seq (.reg false [] [⟨.mv (.c (.p (.i .i64 0))), some 4, none⟩])
 (.block 0 (.loop [0, 1, 4] JX)))
 (.keep [0, 1] J00)))
def JR : AFn := ⟨0, 25, J51, [.cell 0 true 16], false⟩
def J9F : Jg := .seq (.reg false [] [⟨.box 3 (.t 0), some 2, none⟩,
  ⟨.mv (.c (.p (.i .i64 0))), some 4, none⟩])
 (.seq (.reg false [] [⟨.faddr 0 (.t 2), some 5, none⟩,
  ⟨.load false 1 (.t 5), some 6, none⟩,
  ⟨.mv (.t 1), some 7, none⟩,
  ⟨.bin .sub .plain (.t 6) (.t 7), some 8, none⟩,
  ⟨.mv (.t 8), some 4, none⟩])
 (.ret))
def JbN : AFn := ⟨2, 9, J9F, [.tmp 4], false⟩
def J2k : Jg := .seq (.reg false [] [⟨.box 2 (.t 0), some 1, none⟩,
  ⟨.mv (.c (.p (.b false))), some 2, none⟩])
 (.seq (.reg false [] [⟨.faddr 1 (.t 1), some 3, none⟩,
  ⟨.load false 1 (.t 3), some 4, none⟩,
  ⟨.len true (.t 4), some 5, none⟩,
  ⟨.bin .leq .plain (.t 5) (.c (.p (.i .i64 12))), some 6, none⟩,
  ⟨.mv (.t 6), some 7, none⟩,
  ⟨.faddr 0 (.t 1), some 8, some (7, true)⟩,
  ⟨.load false 1 (.t 8), some 9, some (7, true)⟩,
  ⟨.mv (.t 9), some 10, some (7, true)⟩,
  ⟨.faddr 1 (.t 1), some 11, some (10, false)⟩,
  ⟨.load false 1 (.t 11), some 12, some (10, false)⟩,
  ⟨.bin .eql .plain (.t 12) (.c (.p (.s []))), some 13, some (10, false)⟩,
  ⟨.pick (.t 10) (.c (.p (.b true))) (.t 13), some 14, some (7, true)⟩,
  ⟨.pick (.t 7) (.t 14) (.c (.p (.b false))), some 15, none⟩,
  ⟨.mv (.t 15), some 2, none⟩])
 (.ret))
def J47 : AFn := ⟨1, 16, J2k, [.tmp 2], false⟩
def J7I : Jg := .seq (.reg false [] [⟨.mv (.c (.p (.i .i64 0))), some 6, none⟩])
 (.seq (.reg false [] [⟨.mv (.t 0), some 10, none⟩,
  ⟨.mv (.t 1), some 11, none⟩,
  ⟨.mv (.t 2), some 12, none⟩,
  ⟨.call J2H [(.t 10), (.t 11), (.t 12)] 0, some 13, none⟩,
  ⟨.mv (.t 13), some 9, none⟩,
  ⟨.extr (.t 9) 0, some 14, none⟩,
  ⟨.extr (.t 9) 1, some 15, none⟩,
  ⟨.mv (.t 14), some 7, none⟩,
  ⟨.mv (.t 15), some 8, none⟩])
 (.keep [7] (.seq (.reg false [] [⟨.mv (.t 7), some 16, none⟩,
  ⟨.mv (.t 16), some 6, none⟩])
 (.ret))))
def J6r : AFn := ⟨3, 17, J7I, [.tmp 6], false⟩
def J1K : Jg := .seq (.reg false [] [⟨.bin .lss .plain (.t 13) (.c (.p (.i .i64 16))), some 14, none⟩])
 (.seq (.cond (.t 14)
 (.skip)
 (.exit 0))
 (.seq (.block 1 (.seq (.reg false [] [⟨.mv (.t 13), some 15, none⟩,
  ⟨.mv (.t 15), some 5, none⟩])
 (.seq (.reg false [] [⟨.mv (.t 5), some 16, none⟩,
  ⟨.bin .mul .plain (.t 16) (.c (.p (.i .i64 13))), some 17, none⟩,
  ⟨.bin .add .plain (.c (.p (.i .i64 12))) (.t 17), some 18, none⟩,
  ⟨.mv (.t 18), some 6, none⟩])
 (.keep [0, 2, 4, 5, 6, 13] (.seq (.reg false [] [⟨.mv (.t 0), some 19, none⟩,
  ⟨.mv (.t 6), some 20, none⟩,
  ⟨.call J3p [(.t 19), (.t 20), (.c (.p (.i .i64 1)))] 0, some 21, none⟩,
  ⟨.mv (.t 21), some 7, none⟩])
 (.keep [0, 2, 4, 5, 6, 7, 13] (.block 2 (.seq (.reg false [] [⟨.mv (.t 7), some 35, none⟩,
  ⟨.bin .eql .plain (.t 35) (.c (.p (.i .i64 255))), some 36, none⟩,
  ⟨.mv (.t 36), some 34, none⟩])
 (.keep [0, 2, 4, 5, 6, 7, 13, 34] (.cond (.t 34)
 (.skip)
 (.seq (.reg false [] [⟨.mv (.t 7), some 38, none⟩,
   ⟨.bin .gtr .plain (.t 38) (.c (.p (.i .i64 12))), some 39, none⟩,
   ⟨.mv (.t 39), some 37, none⟩])
  (.keep [0, 2, 4, 5, 6, 7, 13, 37] (.cond (.t 37)
  (.seq (.reg false [] [⟨.build (J3 default) [], some 40, none⟩,
    ⟨.store 34 (.t 2) (.t 40), none, none⟩,
    ⟨.mv (.c (.p (.b false))), some 3, none⟩])
   (.ret))
  (.reg false [] [⟨.mv (.t 5), some 22, none⟩,
    ⟨.mv (.t 0), some 23, none⟩,
    ⟨.mv (.t 6), some 24, none⟩,
    ⟨.bin .add .plain (.t 24) (.c (.p (.i .i64 1))), some 25, none⟩,
    ⟨.mv (.t 6), some 26, none⟩,
    ⟨.bin .add .plain (.t 26) (.c (.p (.i .i64 1))), some 27, none⟩,
    ⟨.mv (.t 7), some 28, none⟩,
    ⟨.bin .add .plain (.t 27) (.t 28), some 29, none⟩,
    ⟨.slice .str (.t 23) (some (.t 25)) (some (.t 29)) none, some 30, none⟩,
    ⟨.build (Jf default) [(0, 1, (.c (.p (.b true)))), (1, 1, (.t 30))], some 31, none⟩,
    ⟨.faddr 2 (.t 4), some 32, none⟩,
    ⟨.aaddr 16 2 (.t 32) (.t 22), some 33, none⟩,
    ⟨.store 2 (.t 33) (.t 31), none, none⟩]))))))))))))))
 (.reg false [] [⟨.bin .add .plain (.t 13) (.c (.p (.i .i64 1))), some 41, none⟩,
  ⟨.mv (.t 41), some 13, none⟩])))
def J5b : Jg := .seq (.reg false [] [⟨.load true 34 (.t 4), some 42, none⟩,
  ⟨.store 34 (.t 2) (.t 42), none, none⟩,
  ⟨.mv (.c (.p (.b true))), some 3, none⟩])
 (.ret)
def J93 : Jg := .seq (.reg false [] [⟨.newbox (J3 default), some 2, none⟩,
  ⟨.mv (.c (.p (.b false))), some 3, none⟩])
 (.seq (.reg false [] [⟨.mv (.t 0), some 8, none⟩,
  ⟨.call J3p [(.t 8), (.c (.p (.i .i64 8))), (.c (.p (.i .i64 4)))] 0, some 9, none⟩,
  ⟨.mv (.t 0), some 10, none⟩,
  ⟨.call J3p [(.t 10), (.c (.p (.i .i64 0))), (.c (.p (.i .i64 8)))] 0, some 11, none⟩,
  ⟨.build (J3 default) [(0, 1, (.t 9)), (1, 1, (.t 11))], some 12, none⟩,
  ⟨.newbox (J3 default), some 4, none⟩,
  ⟨.store 34 (.t 4) (.t 12), none, none⟩])
 (.keep [0, 2, 4] (.seq (.seq (.reg false [] [⟨.mv (.c (.p (.i .i64 0))), some 13, none⟩])
 (.block 0 (.loop [0, 2, 4, 13] J1K)))
 (.keep [2, 4] J5b))))
def J3g : AFn := ⟨1, 43, J93, [.cell 2 true 34, .tmp 3], false⟩
def J1H : Jg := .seq (.seq (.reg false [] [⟨.mv (.t 6), some 23, none⟩,
  ⟨.bin .gtr .plain (.t 23) (.c (.p (.i .i64 0))), some 24, none⟩])
 (.cond (.t 24)
 (.skip)
 (.exit 0)))
 (.seq (.block 1 (.reg false [] [⟨.mv (.t 0), some 27, none⟩,
  ⟨.call Ji [(.t 27), (.c (.p (.i .i64 16)))] 0, some 28, none⟩,
  ⟨.mv (.t 0), some 29, none⟩,
  ⟨.call J4d [(.t 29)] 0, some 30, none⟩,
  ⟨.faddr 2 (.t 5), some 31, none⟩,
  ⟨.aaddr 16 2 (.t 31) (.t 28), some 32, none⟩,
  ⟨.store 2 (.t 32) (.t 30), none, none⟩]))
 (.reg false [] [⟨.mv (.t 6), some 25, none⟩,
  ⟨.bin .sub .plain (.t 25) (.c (.p (.i .i64 1))), some 26, none⟩,
  ⟨.mv (.t 26), some 6, none⟩]))
def J2q : Jg := .seq (.reg false [] [⟨.load true 34 (.t 5), some 33, none⟩,
  ⟨.store 34 (.t 4) (.t 33), none, none⟩])
 (.ret)
def J67 : Jg := .seq (.seq (.reg false [] [⟨.faddr 1 (.t 5), some 18, none⟩,
  ⟨.load false 1 (.t 18), some 19, none⟩,
  ⟨.bin .gtr .plain (.t 19) (.c (.p (.i .i64 0))), some 20, none⟩])
 (.keep [0, 4, 5, 20] (.cond (.t 20)
 (.seq (.reg false [] [⟨.mv (.t 0), some 21, none⟩,
   ⟨.call Ji [(.t 21), (.c (.p (.i .i64 6)))] 0, some 22, none⟩,
   ⟨.mv (.t 22), some 6, none⟩])
  (.keep [0, 4, 5, 6] (.block 0 (.loop [0, 4, 5, 6] J1H))))
 (.skip))))
 (.keep [4, 5] J2q)
def J2V : Jg := .seq (.reg false [] [⟨.newbox (J3 default), some 4, none⟩])
 (.seq (.reg false [] [⟨.mv (.t 1), some 7, none⟩,
  ⟨.mv (.t 0), some 8, none⟩,
  ⟨.call Ji [(.t 8), (.c (.p (.i .i64 50)))] 0, some 9, none⟩,
  ⟨.build (J3 default) [(0, 1, (.t 7)), (1, 1, (.t 9))], some 10, none⟩,
  ⟨.newbox (J3 default), some 5, none⟩,
  ⟨.store 34 (.t 5) (.t 10), none, none⟩])
 (.keep [0, 4, 5] (.seq (.seq (.reg false [] [⟨.mv (.t 0), some 11, none⟩,
  ⟨.call Ji [(.t 11), (.c (.p (.i .i64 10)))] 0, some 12, none⟩,
  ⟨.bin .eql .plain (.t 12) (.c (.p (.i .i64 9))), some 13, none⟩])
 (.keep [0, 4, 5, 13] (.cond (.t 13)
 (.reg false [] [⟨.mv (.t 0), some 14, none⟩,
   ⟨.call Ji [(.t 14), (.c (.p (.i .i64 2)))] 0, some 15, none⟩,
   ⟨.bin .sub .plain (.c (.p (.i .i64 1099511627776))) (.t 15), some 16, none⟩,
   ⟨.faddr 1 (.t 5), some 17, none⟩,
   ⟨.store 1 (.t 17) (.t 16), none, none⟩])
 (.skip))))
 (.keep [0, 4, 5] J67))))
def J0F : AFn := ⟨2, 34, J2V, [.cell 4 true 34], false⟩
def J7F : Jg := .seq (.reg false [] [⟨.mv (.c (.p (.s []))), some 0, none⟩])
 (.seq (.reg false [] [⟨.call J3r [(.c (.p (.i .i64 256)))] 0, some 1, none⟩,
  ⟨.mv (.t 1), some 0, none⟩])
 (.ret))
def J68 : AFn := ⟨0, 2, J7F, [.tmp 0], false⟩
def J8s : Jg := .seq (.reg false [] [⟨.mv (.c (.p (.s []))), some 0, none⟩])
 (.seq (.reg false [] [⟨.call J24 [(.c (.p (.s [0]))), (.c (.p (.i .i64 256)))] 0, some 1, none⟩,
  ⟨.mv (.t 1), some 0, none⟩])
 (.ret))
def J7g : AFn := ⟨0, 2, J8s, [.tmp 0], false⟩
def J4W : Jg := .seq (.reg false [] [⟨.box 3 (.t 0), some 2, none⟩,
  ⟨.box 3 (.t 1), some 3, none⟩,
  ⟨.mv (.c (.p (.b false))), some 4, none⟩])
 (.keep [2, 3] (.seq (.reg false [] [⟨.faddr 0 (.t 2), some 5, none⟩,
  ⟨.load false 1 (.t 5), some 6, none⟩,
  ⟨.faddr 0 (.t 3), some 7, none⟩,
  ⟨.load false 1 (.t 7), some 8, none⟩,
  ⟨.bin .eql .plain (.t 6) (.t 8), some 9, none⟩,
  ⟨.mv (.t 9), some 10, none⟩,
  ⟨.faddr 1 (.t 2), some 11, some (10, true)⟩,
  ⟨.load false 1 (.t 11), some 12, some (10, true)⟩,
  ⟨.faddr 1 (.t 3), some 13, some (10, true)⟩,
  ⟨.load false 1 (.t 13), some 14, some (10, true)⟩,
  ⟨.bin .eql .plain (.t 12) (.t 14), some 15, some (10, true)⟩,
  ⟨.pick (.t 10) (.t 15) (.c (.p (.b false))), some 16, none⟩,
  ⟨.mv (.t 16), some 17, none⟩,
  ⟨.faddr 2 (.t 2), some 18, some (17, true)⟩,
  ⟨.load false 1 (.t 18), some 19, some (17, true)⟩,
  ⟨.faddr 2 (.t 3), some 20, some (17, true)⟩,
  ⟨.load false 1 (.t 20), some 21, some (17, true)⟩,
  ⟨.call J0w [(.t 19), (.t 21)] 0, some 22, some (17, true)⟩,
  ⟨.pick (.t 17) (.t 22) (.c (.p (.b false))), some 23, none⟩,
  ⟨.mv (.t 23), some 4, none⟩])
 (.ret)))
def J7n : AFn := ⟨2, 24, J4W, [.tmp 4], false⟩
def J4w : Jg := .seq (.reg false [] [⟨.mv (.c (.p (.b false))), some 4, none⟩])
 (.seq (.reg false [] [⟨.mv (.t 0), some 5, none⟩,
  ⟨.mv (.t 1), some 6, none⟩,
  ⟨.call J0A [(.t 5), (.t 6)] 0, some 7, none⟩,
  ⟨.mv (.t 7), some 4, none⟩])
 (.ret))
def J3b : AFn := ⟨2, 8, J4w, [.tmp 4], false⟩
def Jam : Jg := .seq (.reg false [] [⟨.mv (.c (.p (.s []))), some 4, none⟩,
  ⟨.mv (.c (.p (.i .i64 0))), some 5, none⟩,
  ⟨.mv (.c (.p (.i .i64 0))), some 6, none⟩])
 (.keep [0, 1] (.seq (.seq (.reg false [] [⟨.mv (.t 1), some 11, none⟩,
  ⟨.bin .lss .plain (.t 11) (.c (.p (.i .i64 0))), some 12, none⟩,
  ⟨.mv (.t 12), some 13, none⟩,
  ⟨.mv (.t 1), some 14, some (13, false)⟩,
  ⟨.mv (.t 0), some 15, some (13, false)⟩,
  ⟨.len true (.t 15), some 16, some (13, false)⟩,
  ⟨.bin .gtr .plain (.t 14) (.t 16), some 17, some (13, false)⟩,
  ⟨.pick (.t 13) (.c (.p (.b true))) (.t 17), some 18, none⟩])
 (.keep [0, 1, 18] (.cond (.t 18)
 (.seq (.reg false [] [⟨.mv (.c (.p (.s []))), some 4, none⟩,
   ⟨.mv (.c (.p (.i .i64 0))), some 5, none⟩,
   ⟨.mv (.c (.p (.i .i64 1))), some 6, none⟩])
  (.ret))
 (.skip))))
 (.seq (.reg false [] [⟨.mv (.t 0), some 20, none⟩,
  ⟨.mv (.t 1), some 21, none⟩,
  ⟨.call J3h [(.t 20), (.t 21), (.c (.p (.i .i64 4)))] 0, some 22, none⟩,
  ⟨.mv (.t 22), some 19, none⟩,
  ⟨.extr (.t 19) 0, some 23, none⟩,
  ⟨.extr (.t 19) 1, some 24, none⟩,
  ⟨.mv (.t 23), some 7, none⟩,
  ⟨.mv (.t 24), some 8, none⟩])
 (.keep [0, 1, 7, 8] (.seq (.block 0 (.seq (.reg false [] [⟨.mv (.t 8), some 26, none⟩,
  ⟨.bin .neq .plain (.t 26) (.c (.p (.i .i64 0))), some 27, none⟩,
  ⟨.mv (.t 27), some 25, none⟩])
 (.keep [0, 1, 7, 25] (.cond (.t 25)
 (.seq (.reg false [] [⟨.mv (.c (.p (.s []))), some 4, none⟩,
   ⟨.mv (.c (.p (.i .i64 0))), some 5, none⟩,
   ⟨.mv (.c (.p (.i .i64 5))), some 6, none⟩])
  (.ret))
 (.seq (.reg false [] [⟨.mv (.t 7), some 29, none⟩,
   ⟨.bin .gtr .plain (.t 29) (.c (.p (.i .i64 8392))), some 30, none⟩,
   ⟨.mv (.t 30), some 28, none⟩])
  (.keep [0, 1, 7, 28] (.cond (.t 28)
  (.seq (.reg false [] [⟨.mv (.c (.p (.s []))), some 4, none⟩,
    ⟨.mv (.c (.p (.i .i64 0))), some 5, none⟩,
    ⟨.mv (.c (.p (.i .i64 2))), some 6, none⟩])
   (.ret))
  (.seq (.reg false [] [⟨.mv (.t 0), some 32, none⟩,
    ⟨.len true (.t 32), some 33, none⟩,
    ⟨.mv (.t 1), some 34, none⟩,
    ⟨.bin .sub .plain (.t 33) (.t 34), some 35, none⟩,
    ⟨.mv (.t 7), some 36, none⟩,
    ⟨.bin .add .plain (.t 36) (.c (.p (.i .i64 8))), some 37, none⟩,
    ⟨.bin .lss .plain (.t 35) (.t 37), some 38, none⟩,
    ⟨.mv (.t 38), some 31, none⟩])
   (.keep [0, 1, 7, 31] (.cond (.t 31)
   (.seq (.reg false [] [⟨.mv (.c (.p (.s []))), some 4, none⟩,
     ⟨.mv (.c (.p (.i .i64 0))), some 5, none⟩,
     ⟨.mv (.c (.p (.i .i64 5))), some 6, none⟩])
    (.ret))
   (.skip)))))))))))
 (.seq (.reg false [] [⟨.mv (.t 0), some 40, none⟩,
  ⟨.mv (.t 1), some 41, none⟩,
  ⟨.bin .add .plain (.t 41) (.c (.p (.i .i64 4))), some 42, none⟩,
  ⟨.mv (.t 7), some 43, none⟩,
  ⟨.bin .add .plain (.t 42) (.t 43), some 44, none⟩,
  ⟨.call J3h [(.t 40), (.t 44), (.c (.p (.i .i64 4)))] 0, some 45, none⟩,
  ⟨.mv (.t 45), some 39, none⟩,
  ⟨.extr (.t 39) 0, some 46, none⟩,
  ⟨.extr (.t 39) 1, some 47, none⟩,
  ⟨.mv (.t 46), some 9, none⟩,
  ⟨.mv (.t 47), some 10, none⟩])
 (.keep [0, 1, 7, 9] (.seq (.seq (.reg false [] [⟨.mv (.t 9), some 48, none⟩,
  ⟨.conv (.int .u32) (.t 48), some 49, none⟩,
  ⟨.mv (.t 0), some 50, none⟩,
  ⟨.mv (.t 1), some 51, none⟩,
  ⟨.mv (.t 1), some 52, none⟩,
  ⟨.bin .add .plain (.t 52) (.c (.p (.i .i64 4))), some 53, none⟩,
  ⟨.mv (.t 7), some 54, none⟩,
  ⟨.bin .add .plain (.t 53) (.t 54), some 55, none⟩,
  ⟨.slice .str (.t 50) (some (.t 51)) (some (.t 55)) none, some 56, none⟩,
  ⟨.call J5A [(.t 56)] 0, some 57, none⟩,
  ⟨.bin .neq .plain (.t 49) (.t 57), some 58, none⟩])
 (.keep [0, 1, 7, 58] (.cond (.t 58)
 (.seq (.reg false [] [⟨.mv (.c (.p (.s []))), some 4, none⟩,
   ⟨.mv (.c (.p (.i .i64 0))), some 5, none⟩,
   ⟨.mv (.c (.p (.i .i64 3))), some 6, none⟩])
  (.ret))
 (.skip))))
 (.seq (.reg false [] [⟨.mv (.t 0), some 59, none⟩,
  ⟨.mv (.t 1), some 60, none⟩,
  ⟨.bin .add .plain (.t 60) (.c (.p (.i .i64 4))), some 61, none⟩,
  ⟨.mv (.t 1), some 62, none⟩,
  ⟨.bin .add .plain (.t 62) (.c (.p (.i .i64 4))), some 63, none⟩,
  ⟨.mv (.t 7), some 64, none⟩,
  ⟨.bin .add .plain (.t 63) (.t 64), some 65, none⟩,
  ⟨.slice .str (.t 59) (some (.t 61)) (some (.t 65)) none, some 66, none⟩,
  ⟨.mv (.t 1), some 67, none⟩,
  ⟨.bin .add .plain (.t 67) (.c (.p (.i .i64 8))), some 68, none⟩,
  ⟨.mv (.t 7), some 69, none⟩,
  ⟨.bin .add .plain (.t 68) (.t 69), some 70, none⟩,
  ⟨.mv (.t 66), some 4, none⟩,
  ⟨.mv (.t 70), some 5, none⟩,
  ⟨.mv (.c (.p (.i .i64 0))), some 6, none⟩])
 (.ret))))))))))
def JcX : AFn := ⟨2, 71, Jam, [.tmp 4, .tmp 5, .tmp 6], false⟩
def JaH : Jg := .seq (.reg false [] [⟨.mv (.c (.p (.i .i64 0))), some 6, none⟩])
 (.seq (.reg false [] [⟨.mv (.t 0), some 10, none⟩,
  ⟨.mv (.t 1), some 11, none⟩,
  ⟨.mv (.t 2), some 12, none⟩,
  ⟨.call J3h [(.t 10), (.t 11), (.t 12)] 0, some 13, none⟩,
  ⟨.mv (.t 13), some 9, none⟩,
  ⟨.extr (.t 9) 0, some 14, none⟩,
  ⟨.extr (.t 9) 1, some 15, none⟩,
  ⟨.mv (.t 14), some 7, none⟩,
  ⟨.mv (.t 15), some 8, none⟩])
 (.keep [7] (.seq (.reg false [] [⟨.mv (.t 7), some 16, none⟩,
  ⟨.mv (.t 16), some 6, none⟩])
 (.ret))))
def Jdz : AFn := ⟨3, 17, JaH, [.tmp 6], false⟩
def J3n : Jg := .seq (.reg false [] [⟨.box 34 (.t 0), some 1, none⟩,
  ⟨.mv (.c (.p (.b false))), some 2, none⟩])
 (.seq (.reg false [] [⟨.faddr 0 (.t 1), some 3, none⟩,
  ⟨.load false 1 (.t 3), some 4, none⟩,
  ⟨.call J5R [(.t 4)] 0, some 5, none⟩,
  ⟨.mv (.t 5), some 6, none⟩,
  ⟨.faddr 1 (.t 1), some 7, some (6, true)⟩,
  ⟨.load false 1 (.t 7), some 8, some (6, true)⟩,
  ⟨.bin .geq .plain (.t 8) (.c (.p (.i .i64 0))), some 9, some (6, true)⟩,
  ⟨.pick (.t 6) (.t 9) (.c (.p (.b false))), some 10, none⟩,
  ⟨.mv (.t 10), some 11, none⟩,
  ⟨.faddr 1 (.t 1), some 12, some (11, true)⟩,
  ⟨.load false 1 (.t 12), some 13, some (11, true)⟩,
  ⟨.bin .leq .plain (.t 13) (.c (.p (.i .i64 1099511627776))), some 14, some (11, true)⟩,
  ⟨.pick (.t 11) (.t 14) (.c (.p (.b false))), some 15, none⟩,
  ⟨.mv (.t 15), some 2, none⟩])
 (.ret))
def J6o : AFn := ⟨1, 16, J3n, [.tmp 2], false⟩
def J7f : Jg := .reg true [(6, 8), (6, 11), (8, 14)] [⟨.mv (.t 0), some 10, none⟩,
  ⟨.mv (.t 0), some 11, none⟩,
  ⟨.nilchk (.t 11), some 12, none⟩,
  ⟨.faddr 0 (.t 12), some 13, none⟩,
  ⟨.load false 1 (.t 13), some 14, none⟩,
  ⟨.mv (.t 4), some 15, none⟩,
  ⟨.call J1k [(.t 14), (.t 15), (.c (.p (.i .i64 1)))] 0, some 16, none⟩,
  ⟨.faddr 1 (.t 3), some 17, none⟩,
  ⟨.load false 1 (.t 17), some 18, none⟩,
  ⟨.bin .add .plain (.t 16) (.t 18), some 19, none⟩,
  ⟨.faddr 1 (.t 3), some 20, none⟩,
  ⟨.load false 1 (.t 20), some 21, none⟩,
  ⟨.len true (.t 21), some 22, none⟩,
  ⟨.bin .sub .plain (.c (.p (.i .i64 12))) (.t 22), some 23, none⟩,
  ⟨.call J24 [(.c (.p (.s [0]))), (.t 23)] 0, some 24, none⟩,
  ⟨.bin .add .plain (.t 19) (.t 24), some 25, none⟩,
  ⟨.nilchk (.t 10), some 26, none⟩,
  ⟨.faddr 0 (.t 26), some 27, none⟩,
  ⟨.store 1 (.t 27) (.t 25), none, none⟩]
def J38 : Jg := .seq (.reg false [] [⟨.box 2 (.t 1), some 3, none⟩])
 (.seq (.reg false [] [⟨.mv (.c (.p (.i .i64 255))), some 4, none⟩])
 (.seq (.seq (.reg false [] [⟨.faddr 0 (.t 3), some 5, none⟩,
  ⟨.load false 1 (.t 5), some 6, none⟩])
 (.cond (.t 6)
 (.reg false [] [⟨.faddr 1 (.t 3), some 7, none⟩,
   ⟨.load false 1 (.t 7), some 8, none⟩,
   ⟨.len true (.t 8), some 9, none⟩,
   ⟨.mv (.t 9), some 4, none⟩])
 (.skip)))
 (.keep [0, 3, 4] J7f)))
def J2s : AFn := ⟨2, 28, J38, [], false⟩
def J4k : Jg := .seq (.reg false [] [⟨.bin .lss .plain (.t 9) (.t 8), some 10, none⟩])
 (.seq (.cond (.t 10)
 (.skip)
 (.exit 0))
 (.seq (.block 1 (.seq (.reg false [] [⟨.mv (.t 9), some 11, none⟩,
  ⟨.mv (.t 11), some 5, none⟩])
 (.seq (.reg false [] [⟨.mv (.t 4), some 12, none⟩,
  ⟨.mv (.t 0), some 13, none⟩,
  ⟨.mv (.t 5), some 14, none⟩,
  ⟨.sidx (.t 13) (.t 14), some 15, none⟩,
  ⟨.conv (.int .u32) (.t 15), some 16, none⟩,
  ⟨.bin .xor .plain (.t 12) (.t 16), some 17, none⟩,
  ⟨.mv (.t 17), some 4, none⟩])
 (.keep [0, 3, 4, 8, 9] (.seq (.reg false [] [⟨.mv (.t 4), some 18, none⟩,
  ⟨.bin .shr .plain (.t 18) (.c (.p (.i .u64 4))), some 19, none⟩,
  ⟨.mv (.t 4), some 20, none⟩,
  ⟨.bin .and .plain (.t 20) (.c (.p (.i .u32 15))), some 21, none⟩,
  ⟨.aaddr 16 1 (.t 3) (.t 21), some 22, none⟩,
  ⟨.load false 1 (.t 22), some 23, none⟩,
  ⟨.bin .xor .plain (.t 19) (.t 23), some 24, none⟩,
  ⟨.mv (.t 24), some 4, none⟩])
 (.keep [0, 3, 4, 8, 9] (.reg false [] [⟨.mv (.t 4), some 25, none⟩,
  ⟨.bin .shr .plain (.t 25) (.c (.p (.i .u64 4))), some 26, none⟩,
  ⟨.mv (.t 4), some 27, none⟩,
  ⟨.bin .and .plain (.t 27) (.c (.p (.i .u32 15))), some 28, none⟩,
  ⟨.aaddr 16 1 (.t 3) (.t 28), some 29, none⟩,
  ⟨.load false 1 (.t 29), some 30, none⟩,
  ⟨.bin .xor .plain (.t 26) (.t 30), some 31, none⟩,
  ⟨.mv (.t 31), some 4, none⟩])))))))
 (.reg false [] [⟨.bin .add .plain (.t 9) (.c (.p (.i .i64 1))), some 32, none⟩,
  ⟨.mv (.t 32), some 9, none⟩])))
def J5h : Jg := .seq (.reg false [] [⟨.mv (.t 4), some 33, none⟩,
  ⟨.un .xor (.t 33), some 34, none⟩,
  ⟨.mv (.t 34), some 2, none⟩])
 (.ret)
def J8Y : Jg := .seq (.reg false [] [⟨.mv (.c (.p (.i .u32 0))), some 2, none⟩])
 (.seq (.reg false [] [⟨.call J3L [] 0, some 6, none⟩,
  ⟨.newbox (JU (r_i .u32) (Vector.replicate 16 (0 : Int))), some 3, none⟩,
  ⟨.store 16 (.t 3) (.t 6), none, none⟩])
 (.keep [0, 3] (.seq (.reg false [] [⟨.mv (.c (.p (.i .u32 4294967295))), some 4, none⟩])
 (.seq (.seq (.reg false [] [⟨.mv (.t 0), some 7, none⟩,
  ⟨.len true (.t 7), some 8, none⟩,
  ⟨.mv (.c (.p (.i .i64 0))), some 9, none⟩])
 (.keep [0, 3, 4, 8, 9] (.block 0 (.loop [0, 3, 4, 8, 9] J4k))))
 (.keep [4] J5h)))))
def J3j : AFn := ⟨1, 35, J8Y, [.tmp 2], false⟩
def J5E : Jg := .seq (.seq (.reg false [] [⟨.mv (.t 9), some 15, none⟩,
  ⟨.mv (.t 10), some 16, none⟩,
  ⟨.bin .lss .plain (.t 15) (.t 16), some 17, none⟩])
 (.keep [0, 1, 2, 8, 9, 10, 17] (.cond (.t 17)
 (.skip)
 (.exit 0))))
 (.block 1 (.seq (.reg false [] [⟨.mv (.t 9), some 18, none⟩,
  ⟨.mv (.t 10), some 19, none⟩,
  ⟨.bin .add .plain (.t 18) (.t 19), some 20, none⟩,
  ⟨.conv (.int .u64) (.t 20), some 21, none⟩,
  ⟨.bin .shr .plain (.t 21) (.c (.p (.i .u64 1))), some 22, none⟩,
  ⟨.conv (.int .i64) (.t 22), some 23, none⟩,
  ⟨.mv (.t 23), some 11, none⟩])
 (.keep [0, 1, 2, 8, 9, 10, 11] (.seq (.reg false [] [⟨.mv (.t 2), some 24, none⟩,
  ⟨.mv (.t 0), some 25, none⟩,
  ⟨.mv (.t 11), some 26, none⟩,
  ⟨.iaddr 3 (.t 25) (.t 26), some 27, none⟩,
  ⟨.load true 3 (.t 27), some 28, none⟩,
  ⟨.mv (.t 1), some 29, none⟩,
  ⟨.callv (.t 24) [(.t 28), (.t 29)] 0, some 30, none⟩,
  ⟨.bin .lss .plain (.t 30) (.c (.p (.i .i64 0))), some 31, none⟩])
 (.keep [0, 1, 2, 8, 9, 10, 11, 31] (.cond (.t 31)
 (.reg false [] [⟨.mv (.t 11), some 32, none⟩,
   ⟨.bin .add .plain (.t 32) (.c (.p (.i .i64 1))), some 33, none⟩,
   ⟨.mv (.t 33), some 9, none⟩])
 (.reg false [] [⟨.mv (.t 11), some 34, none⟩,
   ⟨.mv (.t 34), some 10, none⟩])))))))
def J5I : Jg := .seq (.reg false [] [⟨.mv (.t 9), some 35, none⟩,
  ⟨.mv (.t 9), some 36, none⟩,
  ⟨.mv (.t 8), some 37, none⟩,
  ⟨.bin .lss .plain (.t 36) (.t 37), some 38, none⟩,
  ⟨.mv (.t 38), some 39, none⟩,
  ⟨.mv (.t 2), some 40, some (39, true)⟩,
  ⟨.mv (.t 0), some 41, some (39, true)⟩,
  ⟨.mv (.t 9), some 42, some (39, true)⟩,
  ⟨.iaddr 3 (.t 41) (.t 42), some 43, some (39, true)⟩,
  ⟨.load true 3 (.t 43), some 44, some (39, true)⟩,
  ⟨.mv (.t 1), some 45, some (39, true)⟩,
  ⟨.callv (.t 40) [(.t 44), (.t 45)] 0, some 46, some (39, true)⟩,
  ⟨.bin .eql .plain (.t 46) (.c (.p (.i .i64 0))), some 47, some (39, true)⟩,
  ⟨.pick (.t 39) (.t 47) (.c (.p (.b false))), some 48, none⟩,
  ⟨.mv (.t 35), some 6, none⟩,
  ⟨.mv (.t 48), some 7, none⟩])
 (.ret)
def J1j : Jg := .seq (.reg false [] [⟨.mv (.c (.p (.i .i64 0))), some 6, none⟩,
  ⟨.mv (.c (.p (.b false))), some 7, none⟩])
 (.seq (.reg false [] [⟨.mv (.t 0), some 12, none⟩,
  ⟨.len false (.t 12), some 13, none⟩,
  ⟨.mv (.t 13), some 8, none⟩])
 (.keep [0, 1, 2, 8] (.seq (.reg false [] [⟨.mv (.t 8), some 14, none⟩,
  ⟨.mv (.c (.p (.i .i64 0))), some 9, none⟩,
  ⟨.mv (.t 14), some 10, none⟩])
 (.keep [0, 1, 2, 8, 9, 10] (.seq (.block 0 (.loop [0, 1, 2, 8, 9, 10] J5E))
 (.keep [0, 1, 2, 8, 9] J5I))))))
def J2L : AFn := ⟨3, 49, J1j, [.tmp 6, .tmp 7], false⟩
def Jbb : Jg := .seq (.reg false [] [⟨.box 3 (.t 0), some 2, none⟩,
  ⟨.mv (.c (.p (.i .i64 0))), some 4, none⟩,
  ⟨.mv (.c (.p (.b false))), some 5, none⟩])
 (.keep [1, 2] (.seq (.reg false [] [⟨.faddr 2 (.t 2), some 6, none⟩,
  ⟨.load false 1 (.t 6), some 7, none⟩,
  ⟨.mv (.t 1), some 8, none⟩,
  ⟨.call J1h [(.t 7), (.t 8), (.c (.fn J9x [] []))] 0, some 9, none⟩,
  ⟨.extr (.t 9) 0, some 10, none⟩,
  ⟨.extr (.t 9) 1, some 11, none⟩,
  ⟨.mv (.t 10), some 4, none⟩,
  ⟨.mv (.t 11), some 5, none⟩])
 (.ret)))
def JeH : AFn := ⟨2, 12, Jbb, [.tmp 4, .tmp 5], false⟩
def J0t : Jg := .seq (.seq (.reg false [] [⟨.mv (.t 3), some 4, none⟩,
  ⟨.bin .lss .plain (.t 4) (.c (.p (.i .i64 16))), some 5, none⟩])
 (.cond (.t 5)
 (.skip)
 (.exit 0)))
 (.seq (.block 1 (.seq (.reg false [] [⟨.mv (.t 3), some 8, none⟩,
  ⟨.faddr 2 (.t 1), some 9, none⟩,
  ⟨.aaddr 16 2 (.t 9) (.t 8), some 10, none⟩,
  ⟨.load true 2 (.t 10), some 11, none⟩,
  ⟨.call J46 [(.t 11)] 0, some 12, none⟩,
  ⟨.un .not (.t 12), some 13, none⟩,
  ⟨.mv (.t 13), some 14, none⟩,
  ⟨.faddr 1 (.t 1), some 15, some (14, false)⟩,
  ⟨.load false 1 (.t 15), some 16, some (14, false)⟩,
  ⟨.bin .eql .plain (.t 16) (.c (.p (.i .i64 0))), some 17, some (14, false)⟩,
  ⟨.mv (.t 17), some 18, some (14, false)⟩,
  ⟨.mv (.t 3), some 19, some (18, true)⟩,
  ⟨.faddr 2 (.t 1), some 20, some (18, true)⟩,
  ⟨.aaddr 16 2 (.t 20) (.t 19), some 21, some (18, true)⟩,
  ⟨.faddr 0 (.t 21), some 22, some (18, true)⟩,
  ⟨.load false 1 (.t 22), some 23, some (18, true)⟩,
  ⟨.pick (.t 18) (.t 23) (.c (.p (.b false))), some 24, some (14, false)⟩,
  ⟨.pick (.t 14) (.c (.p (.b true))) (.t 24), some 25, none⟩])
 (.keep [1, 3, 25] (.cond (.t 25)
 (.seq (.reg false [] [⟨.mv (.c (.p (.b false))), some 2, none⟩])
  (.ret))
 (.skip)))))
 (.reg false [] [⟨.mv (.t 3), some 6, none⟩,
  ⟨.bin .add .plain (.t 6) (.c (.p (.i .i64 1))), some 7, none⟩,
  ⟨.mv (.t 7), some 3, none⟩]))
def J40 : Jg := .seq (.reg false [] [⟨.mv (.c (.p (.b true))), some 2, none⟩])
 (.ret)
def J7L : Jg := .seq (.reg false [] [⟨.box 34 (.t 0), some 1, none⟩,
  ⟨.mv (.c (.p (.b false))), some 2, none⟩])
 (.seq (.seq (.reg false [] [⟨.mv (.c (.p (.i .i64 0))), some 3, none⟩])
 (.block 0 (.loop [1, 3] J0t)))
 (.keep [] J40))
def J2c : AFn := ⟨1, 26, J7L, [.tmp 2], false⟩
def J33 : Jg := .seq (.reg false [] [⟨.bin .lss .plain (.t 29) (.c (.p (.i .i64 16))), some 30, none⟩])
 (.seq (.cond (.t 30)
 (.skip)
 (.exit 1))
 (.seq (.block 2 (.seq (.reg false [] [⟨.aidx true 16 2 (.t 28) (.t 29), some 31, none⟩,
  ⟨.newbox (Jf default), some 7, none⟩,
  ⟨.store 2 (.t 7) (.t 31), none, none⟩])
 (.keep [1, 4, 5, 7, 28, 29] (.reg false [] [⟨.mv (.t 5), some 32, none⟩,
  ⟨.load true 2 (.t 7), some 33, none⟩,
  ⟨.callv (.t 32) [(.t 33)] 0, some 34, none⟩]))))
 (.reg false [] [⟨.bin .add .plain (.t 29) (.c (.p (.i .i64 1))), some 35, none⟩,
  ⟨.mv (.t 35), some 29, none⟩])))
def J41 : Jg := .seq (.reg true [(3, 10)] [⟨.mv (.t 4), some 36, none⟩,
  ⟨.nilchk (.t 36), some 37, none⟩,
  ⟨.faddr 0 (.t 37), some 38, none⟩,
  ⟨.load false 1 (.t 38), some 39, none⟩,
  ⟨.mv (.t 4), some 40, none⟩,
  ⟨.nilchk (.t 40), some 41, none⟩,
  ⟨.faddr 0 (.t 41), some 42, none⟩,
  ⟨.load false 1 (.t 42), some 43, none⟩,
  ⟨.len true (.t 43), some 44, none⟩,
  ⟨.bin .sub .plain (.c (.p (.i .i64 244))) (.t 44), some 45, none⟩,
  ⟨.call J24 [(.c (.p (.s [0]))), (.t 45)] 0, some 46, none⟩,
  ⟨.bin .add .plain (.t 39) (.t 46), some 47, none⟩,
  ⟨.mv (.t 47), some 8, none⟩])
 (.keep [1, 8] (.seq (.reg true [(2, 6), (4, 6)] [⟨.mv (.t 8), some 48, none⟩,
  ⟨.mv (.t 8), some 49, none⟩,
  ⟨.call J3P [(.t 49)] 0, some 50, none⟩,
  ⟨.conv (.int .i64) (.t 50), some 51, none⟩,
  ⟨.call J1k [(.t 48), (.t 51), (.c (.p (.i .i64 4)))] 0, some 52, none⟩,
  ⟨.faddr 1 (.t 1), some 53, none⟩,
  ⟨.load false 1 (.t 53), some 54, none⟩,
  ⟨.call J1k [(.t 52), (.t 54), (.c (.p (.i .i64 8)))] 0, some 55, none⟩,
  ⟨.mv (.t 55), some 2, none⟩,
  ⟨.mv (.c (.p (.i .i64 0))), some 3, none⟩])
 (.ret)))
def J3s : Jg := .seq (.reg false [] [⟨.box 34 (.t 0), some 1, none⟩,
  ⟨.mv (.c (.p (.s []))), some 2, none⟩,
  ⟨.mv (.c (.p (.i .i64 0))), some 3, none⟩])
 (.keep [1] (.seq (.block 0 (.seq (.reg false [] [⟨.load true 34 (.t 1), some 10, none⟩,
  ⟨.call J6m [(.t 10)] 0, some 11, none⟩,
  ⟨.un .not (.t 11), some 12, none⟩,
  ⟨.mv (.t 12), some 9, none⟩])
 (.keep [1, 9] (.cond (.t 9)
 (.seq (.reg false [] [⟨.mv (.c (.p (.s []))), some 2, none⟩,
   ⟨.mv (.c (.p (.i .i64 1))), some 3, none⟩])
  (.ret))
 (.seq (.reg false [] [⟨.load true 34 (.t 1), some 14, none⟩,
   ⟨.call J79 [(.t 14)] 0, some 15, none⟩,
   ⟨.un .not (.t 15), some 16, none⟩,
   ⟨.mv (.t 16), some 13, none⟩])
  (.keep [1, 13] (.cond (.t 13)
  (.seq (.reg false [] [⟨.mv (.c (.p (.s []))), some 2, none⟩,
    ⟨.mv (.c (.p (.i .i64 22))), some 3, none⟩])
   (.ret))
  (.skip))))))))
 (.seq (.reg true [(2, 4)] [⟨.faddr 1 (.t 1), some 17, none⟩,
  ⟨.load false 1 (.t 17), some 18, none⟩,
  ⟨.call J1k [(.c (.p (.s []))), (.t 18), (.c (.p (.i .i64 8)))] 0, some 19, none⟩,
  ⟨.faddr 0 (.t 1), some 20, none⟩,
  ⟨.load false 1 (.t 20), some 21, none⟩,
  ⟨.call J1k [(.t 19), (.t 21), (.c (.p (.i .i64 4)))] 0, some 22, none⟩,
  ⟨.build (J0v default) [(0, 1, (.t 22))], some 23, none⟩,
  ⟨.box 1 (.t 23), some 24, none⟩,
  ⟨.mv (.t 24), some 4, none⟩])
 (.keep [1, 4] (.seq (.reg false [] [⟨.mv (.t 4), some 25, none⟩,
  ⟨.mkfn J0Q [(.t 25)] [], some 26, none⟩,
  ⟨.mv (.t 26), some 5, none⟩])
 (.keep [1, 4, 5] (.seq (.tidy [1, 2, 3, 4] (.seq (.reg false [] [⟨.faddr 2 (.t 1), some 27, none⟩,
  ⟨.load true 32 (.t 27), some 28, none⟩,
  ⟨.mv (.c (.p (.i .i64 0))), some 29, none⟩])
 (.keep [1, 4, 5, 28, 29] (.block 1 (.loop [1, 4, 5, 28, 29] J33)))))
 (.keep [1, 4] J41))))))))
def J2a : AFn := ⟨1, 56, J3s, [.tmp 2, .tmp 3], false⟩
def J6i : Jg := .seq (.reg false [] [⟨.mv (.c (.p (.s []))), some 2, none⟩])
 (.seq (.seq (.reg false [] [⟨.mv (.t 0), some 4, none⟩,
  ⟨.len true (.t 4), some 5, none⟩,
  ⟨.bin .gtr .plain (.t 5) (.c (.p (.i .i64 8392))), some 6, none⟩])
 (.keep [0, 6] (.cond (.t 6)
 (.seq (.reg false [] [⟨.mv (.c (.p (.s []))), some 2, none⟩])
  (.ret))
 (.skip))))
 (.seq (.reg false [] [⟨.mv (.t 0), some 7, none⟩,
  ⟨.len true (.t 7), some 8, none⟩,
  ⟨.call J1k [(.c (.p (.s []))), (.t 8), (.c (.p (.i .i64 4)))] 0, some 9, none⟩,
  ⟨.mv (.t 0), some 10, none⟩,
  ⟨.bin .add .plain (.t 9) (.t 10), some 11, none⟩,
  ⟨.mv (.t 11), some 3, none⟩])
 (.keep [3] (.seq (.reg false [] [⟨.mv (.t 3), some 12, none⟩,
  ⟨.mv (.t 3), some 13, none⟩,
  ⟨.call J3P [(.t 13)] 0, some 14, none⟩,
  ⟨.conv (.int .i64) (.t 14), some 15, none⟩,
  ⟨.call J1k [(.t 12), (.t 15), (.c (.p (.i .i64 4)))] 0, some 16, none⟩,
  ⟨.mv (.t 16), some 2, none⟩])
 (.ret)))))
def J6p : AFn := ⟨1, 17, J6i, [.tmp 2], false⟩
def J07 : Jg := .seq (.reg false [] [⟨.mv (.c (.p (.s []))), some 4, none⟩,
  ⟨.mv (.c (.p (.i .i64 0))), some 5, none⟩,
  ⟨.mv (.c (.p (.i .i64 0))), some 6, none⟩])
 (.keep [0, 1] (.seq (.seq (.reg false [] [⟨.mv (.t 1), some 10, none⟩,
  ⟨.bin .lss .plain (.t 10) (.c (.p (.i .i64 0))), some 11, none⟩,
  ⟨.mv (.t 11), some 12, none⟩,
  ⟨.mv (.t 1), some 13, some (12, false)⟩,
  ⟨.mv (.t 0), some 14, some (12, false)⟩,
  ⟨.len true (.t 14), some 15, some (12, false)⟩,
  ⟨.bin .gtr .plain (.t 13) (.t 15), some 16, some (12, false)⟩,
  ⟨.pick (.t 12) (.c (.p (.b true))) (.t 16), some 17, none⟩])
 (.keep [0, 1, 17] (.cond (.t 17)
 (.seq (.reg false [] [⟨.mv (.c (.p (.s []))), some 4, none⟩,
   ⟨.mv (.c (.p (.i .i64 0))), some 5, none⟩,
   ⟨.mv (.c (.p (.i .i64 1))), some 6, none⟩])
  (.ret))
 (.skip))))
 (.seq (.reg false [] [⟨.mv (.t 0), some 19, none⟩,
  ⟨.mv (.t 1), some 20, none⟩,
  ⟨.call J2H [(.t 19), (.t 20), (.c (.p (.i .i64 4)))] 0, some 21, none⟩,
  ⟨.mv (.t 21), some 18, none⟩,
  ⟨.extr (.t 18) 0, some 22, none⟩,
  ⟨.extr (.t 18) 1, some 23, none⟩,
  ⟨.mv (.t 22), some 7, none⟩,
  ⟨.mv (.t 23), some 6, none⟩])
 (.keep [0, 1, 6, 7] (.seq (.block 0 (.seq (.reg false [] [⟨.mv (.t 6), some 25, none⟩,
  ⟨.bin .neq .plain (.t 25) (.c (.p (.i .i64 0))), some 26, none⟩,
  ⟨.mv (.t 26), some 24, none⟩])
 (.keep [0, 1, 6, 7, 24] (.cond (.t 24)
 (.seq (.reg false [] [⟨.mv (.t 6), some 27, none⟩,
   ⟨.mv (.c (.p (.s []))), some 4, none⟩,
   ⟨.mv (.c (.p (.i .i64 0))), some 5, none⟩,
   ⟨.mv (.t 27), some 6, none⟩])
  (.ret))
 (.seq (.reg false [] [⟨.mv (.t 7), some 29, none⟩,
   ⟨.bin .gtr .plain (.t 29) (.c (.p (.i .i64 8392))), some 30, none⟩,
   ⟨.mv (.t 30), some 28, none⟩])
  (.keep [0, 1, 7, 28] (.cond (.t 28)
  (.seq (.reg false [] [⟨.mv (.c (.p (.s []))), some 4, none⟩,
    ⟨.mv (.c (.p (.i .i64 0))), some 5, none⟩,
    ⟨.mv (.c (.p (.i .i64 2))), some 6, none⟩])
   (.ret))
  (.skip))))))))
 (.seq (.reg false [] [⟨.mv (.t 1), some 31, none⟩,
  ⟨.bin .add .plain (.t 31) (.c (.p (.i .i64 4))), some 32, none⟩,
  ⟨.mv (.t 7), some 33, none⟩,
  ⟨.bin .add .plain (.t 32) (.t 33), some 34, none⟩,
  ⟨.mv (.t 34), some 8, none⟩])
 (.keep [0, 1, 8] (.seq (.reg false [] [⟨.mv (.t 0), some 36, none⟩,
  ⟨.mv (.t 8), some 37, none⟩,
  ⟨.call J2H [(.t 36), (.t 37), (.c (.p (.i .i64 4)))] 0, some 38, none⟩,
  ⟨.mv (.t 38), some 35, none⟩,
  ⟨.extr (.t 35) 0, some 39, none⟩,
  ⟨.extr (.t 35) 1, some 40, none⟩,
  ⟨.mv (.t 39), some 9, none⟩,
  ⟨.mv (.t 40), some 6, none⟩])
 (.keep [0, 1, 6, 8, 9] (.seq (.block 1 (.seq (.reg false [] [⟨.mv (.t 6), some 42, none⟩,
  ⟨.bin .neq .plain (.t 42) (.c (.p (.i .i64 0))), some 43, none⟩,
  ⟨.mv (.t 43), some 41, none⟩])
 (.keep [0, 1, 6, 8, 9, 41] (.cond (.t 41)
 (.seq (.reg false [] [⟨.mv (.t 6), some 44, none⟩,
   ⟨.mv (.c (.p (.s []))), some 4, none⟩,
   ⟨.mv (.c (.p (.i .i64 0))), some 5, none⟩,
   ⟨.mv (.t 44), some 6, none⟩])
  (.ret))
 (.seq (.reg false [] [⟨.mv (.t 9), some 46, none⟩,
   ⟨.mv (.t 0), some 47, none⟩,
   ⟨.mv (.t 1), some 48, none⟩,
   ⟨.mv (.t 8), some 49, none⟩,
   ⟨.slice .str (.t 47) (some (.t 48)) (some (.t 49)) none, some 50, none⟩,
   ⟨.call J3P [(.t 50)] 0, some 51, none⟩,
   ⟨.conv (.int .i64) (.t 51), some 52, none⟩,
   ⟨.bin .neq .plain (.t 46) (.t 52), some 53, none⟩,
   ⟨.mv (.t 53), some 45, none⟩])
  (.keep [0, 1, 8, 45] (.cond (.t 45)
  (.seq (.reg false [] [⟨.mv (.c (.p (.s []))), some 4, none⟩,
    ⟨.mv (.c (.p (.i .i64 0))), some 5, none⟩,
    ⟨.mv (.c (.p (.i .i64 3))), some 6, none⟩])
   (.ret))
  (.skip))))))))
 (.seq (.reg false [] [⟨.mv (.t 0), some 54, none⟩,
  ⟨.mv (.t 1), some 55, none⟩,
  ⟨.bin .add .plain (.t 55) (.c (.p (.i .i64 4))), some 56, none⟩,
  ⟨.mv (.t 8), some 57, none⟩,
  ⟨.slice .str (.t 54) (some (.t 56)) (some (.t 57)) none, some 58, none⟩,
  ⟨.mv (.t 8), some 59, none⟩,
  ⟨.bin .add .plain (.t 59) (.c (.p (.i .i64 4))), some 60, none⟩,
  ⟨.mv (.t 58), some 4, none⟩,
  ⟨.mv (.t 60), some 5, none⟩,
  ⟨.mv (.c (.p (.i .i64 0))), some 6, none⟩])
 (.ret))))))))))))
def J58 : AFn := ⟨2, 61, J07, [.tmp 4, .tmp 5, .tmp 6], false⟩
def J3o : Jg := .seq (.reg false [] [⟨.box 34 (.t 0), some 1, none⟩,
  ⟨.mv (.c (.p (.i .i64 0))), some 2, none⟩])
 (.seq (.block 0 (.seq (.reg false [] [⟨.load true 34 (.t 1), some 4, none⟩,
  ⟨.call J57 [(.t 4)] 0, some 5, none⟩,
  ⟨.un .not (.t 5), some 6, none⟩,
  ⟨.mv (.t 6), some 3, none⟩])
 (.keep [1, 3] (.cond (.t 3)
 (.seq (.reg false [] [⟨.mv (.c (.p (.i .i64 1))), some 2, none⟩])
  (.ret))
 (.seq (.reg false [] [⟨.load true 34 (.t 1), some 8, none⟩,
   ⟨.call J6d [(.t 8)] 0, some 9, none⟩,
   ⟨.un .not (.t 9), some 10, none⟩,
   ⟨.mv (.t 10), some 7, none⟩])
  (.keep [7] (.cond (.t 7)
  (.seq (.reg false [] [⟨.mv (.c (.p (.i .i64 22))), some 2, none⟩])
   (.ret))
  (.skip))))))))
 (.seq (.reg false [] [⟨.mv (.c (.p (.i .i64 0))), some 2, none⟩])
 (.ret)))
def J69 : AFn := ⟨1, 11, J3o, [.tmp 2], false⟩
def J0b : Jg := .seq (.reg false [] [⟨.newbox (J3 default), some 2, none⟩,
  ⟨.mv (.c (.p (.i .i64 0))), some 3, none⟩])
 (.seq (.block 0 (.seq (.reg false [] [⟨.mv (.t 0), some 9, none⟩,
  ⟨.len true (.t 9), some 10, none⟩,
  ⟨.bin .neq .plain (.t 10) (.c (.p (.i .i64 256))), some 11, none⟩,
  ⟨.mv (.t 11), some 8, none⟩])
 (.keep [0, 2, 8] (.cond (.t 8)
 (.seq (.reg false [] [⟨.build (J3 default) [], some 12, none⟩,
   ⟨.store 34 (.t 2) (.t 12), none, none⟩,
   ⟨.mv (.c (.p (.i .i64 2))), some 3, none⟩])
  (.ret))
 (.seq (.reg false [] [⟨.mv (.t 0), some 14, none⟩,
   ⟨.call J7k [] 0, some 15, none⟩,
   ⟨.bin .eql .plain (.t 14) (.t 15), some 16, none⟩,
   ⟨.mv (.t 16), some 13, none⟩])
  (.keep [0, 2, 13] (.cond (.t 13)
  (.seq (.reg false [] [⟨.build (J3 default) [], some 17, none⟩,
    ⟨.store 34 (.t 2) (.t 17), none, none⟩,
    ⟨.mv (.c (.p (.i .i64 7))), some 3, none⟩])
   (.ret))
  (.seq (.reg true [] [⟨.mv (.t 0), some 19, none⟩,
    ⟨.slice .str (.t 19) none (some (.c (.p (.i .i64 8)))) none, some 20, none⟩,
    ⟨.mv (.t 0), some 21, none⟩,
    ⟨.slice .str (.t 21) (some (.c (.p (.i .i64 248)))) none none, some 22, none⟩,
    ⟨.bin .neq .plain (.t 20) (.t 22), some 23, none⟩,
    ⟨.mv (.t 23), some 18, none⟩])
   (.keep [0, 2, 18] (.cond (.t 18)
   (.seq (.reg false [] [⟨.build (J3 default) [], some 24, none⟩,
     ⟨.store 34 (.t 2) (.t 24), none, none⟩,
     ⟨.mv (.c (.p (.i .i64 27))), some 3, none⟩])
    (.ret))
   (.seq (.reg true [] [⟨.mv (.t 0), some 26, none⟩,
     ⟨.call J3p [(.t 26), (.c (.p (.i .i64 244))), (.c (.p (.i .i64 4)))] 0, some 27, none⟩,
     ⟨.mv (.t 0), some 28, none⟩,
     ⟨.slice .str (.t 28) none (some (.c (.p (.i .i64 244)))) none, some 29, none⟩,
     ⟨.call J3P [(.t 29)] 0, some 30, none⟩,
     ⟨.conv (.int .i64) (.t 30), some 31, none⟩,
     ⟨.bin .neq .plain (.t 27) (.t 31), some 32, none⟩,
     ⟨.mv (.t 32), some 25, none⟩])
    (.keep [0, 2, 25] (.cond (.t 25)
    (.seq (.reg false [] [⟨.build (J3 default) [], some 33, none⟩,
      ⟨.store 34 (.t 2) (.t 33), none, none⟩,
      ⟨.mv (.c (.p (.i .i64 3))), some 3, none⟩])
     (.ret))
    (.skip))))))))))))))
 (.seq (.reg false [] [⟨.mv (.t 0), some 35, none⟩,
  ⟨.call J80 [(.t 35)] 0, some 36, none⟩,
  ⟨.mv (.t 36), some 34, none⟩,
  ⟨.extr (.t 34) 0, some 37, none⟩,
  ⟨.extr (.t 34) 1, some 38, none⟩,
  ⟨.newbox (J3 default), some 4, none⟩,
  ⟨.store 34 (.t 4) (.t 37), none, none⟩,
  ⟨.mv (.t 38), some 5, none⟩])
 (.keep [0, 2, 4, 5] (.seq (.seq (.reg false [] [⟨.load true 34 (.t 4), some 40, none⟩,
  ⟨.call J6n [(.t 40)] 0, some 41, none⟩,
  ⟨.mv (.t 41), some 39, none⟩,
  ⟨.extr (.t 39) 0, some 42, none⟩,
  ⟨.extr (.t 39) 1, some 43, none⟩,
  ⟨.mv (.t 42), some 6, none⟩,
  ⟨.mv (.t 43), some 7, none⟩])
 (.keep [0, 2, 4, 5, 6, 7] (.seq (.reg false [] [⟨.mv (.t 5), some 44, none⟩,
  ⟨.un .not (.t 44), some 45, none⟩,
  ⟨.mv (.t 45), some 46, none⟩,
  ⟨.mv (.t 7), some 47, some (46, false)⟩,
  ⟨.bin .neq .plain (.t 47) (.c (.p (.i .i64 0))), some 48, some (46, false)⟩,
  ⟨.pick (.t 46) (.c (.p (.b true))) (.t 48), some 49, none⟩,
  ⟨.mv (.t 49), some 50, none⟩,
  ⟨.mv (.t 6), some 51, some (50, false)⟩,
  ⟨.mv (.t 0), some 52, some (50, false)⟩,
  ⟨.bin .neq .plain (.t 51) (.t 52), some 53, some (50, false)⟩,
  ⟨.pick (.t 50) (.c (.p (.b true))) (.t 53), some 54, none⟩])
 (.keep [2, 4, 54] (.cond (.t 54)
 (.seq (.reg false [] [⟨.build (J3 default) [], some 55, none⟩,
   ⟨.store 34 (.t 2) (.t 55), none, none⟩,
   ⟨.mv (.c (.p (.i .i64 4))), some 3, none⟩])
  (.ret))
 (.skip))))))
 (.seq (.reg false [] [⟨.load true 34 (.t 4), some 56, none⟩,
  ⟨.store 34 (.t 2) (.t 56), none, none⟩,
  ⟨.mv (.c (.p (.i .i64 0))), some 3, none⟩])
 (.ret))))))
def J6g : AFn := ⟨1, 57, J0b, [.cell 2 true 34, .tmp 3], false⟩
def J9w : Jg := .seq (.reg false [] [⟨.mv (.t 5), some 35, none⟩,
  ⟨.mv (.t 7), some 36, none⟩,
  ⟨.call J3O [(.t 35), (.t 36), (.c (.p (.i .i64 1)))] 0, some 37, none⟩,
  ⟨.mv (.t 37), some 5, none⟩])
 (.keep [1, 5, 6] (.reg true [(5, 13)] [⟨.mv (.t 5), some 38, none⟩,
  ⟨.mv (.t 6), some 39, none⟩,
  ⟨.faddr 2 (.t 1), some 40, none⟩,
  ⟨.aaddr 16 2 (.t 40) (.t 39), some 41, none⟩,
  ⟨.faddr 1 (.t 41), some 42, none⟩,
  ⟨.load false 1 (.t 42), some 43, none⟩,
  ⟨.mv (.t 6), some 44, none⟩,
  ⟨.faddr 2 (.t 1), some 45, none⟩,
  ⟨.aaddr 16 2 (.t 45) (.t 44), some 46, none⟩,
  ⟨.faddr 1 (.t 46), some 47, none⟩,
  ⟨.load false 1 (.t 47), some 48, none⟩,
  ⟨.len true (.t 48), some 49, none⟩,
  ⟨.bin .sub .plain (.c (.p (.i .i64 12))) (.t 49), some 50, none⟩,
  ⟨.call J3r [(.t 50)] 0, some 51, none⟩,
  ⟨.bin .add .plain (.t 43) (.t 51), some 52, none⟩,
  ⟨.bin .add .plain (.t 38) (.t 52), some 53, none⟩,
  ⟨.mv (.t 53), some 5, none⟩]))
def J7r : Jg := .reg false [] [⟨.mv (.t 6), some 22, none⟩,
  ⟨.bin .add .plain (.t 22) (.c (.p (.i .i64 1))), some 23, none⟩,
  ⟨.mv (.t 23), some 6, none⟩]
def J0S : Jg := .seq (.seq (.reg false [] [⟨.mv (.t 6), some 20, none⟩,
  ⟨.bin .lss .plain (.t 20) (.c (.p (.i .i64 16))), some 21, none⟩])
 (.cond (.t 21)
 (.skip)
 (.exit 0)))
 (.seq (.block 1 (.seq (.reg false [] [⟨.mv (.c (.p (.i .i64 255))), some 7, none⟩])
 (.seq (.seq (.reg false [] [⟨.mv (.t 6), some 24, none⟩,
  ⟨.faddr 2 (.t 1), some 25, none⟩,
  ⟨.aaddr 16 2 (.t 25) (.t 24), some 26, none⟩,
  ⟨.faddr 0 (.t 26), some 27, none⟩,
  ⟨.load false 1 (.t 27), some 28, none⟩])
 (.keep [1, 5, 6, 7, 28] (.cond (.t 28)
 (.reg false [] [⟨.mv (.t 6), some 29, none⟩,
   ⟨.faddr 2 (.t 1), some 30, none⟩,
   ⟨.aaddr 16 2 (.t 30) (.t 29), some 31, none⟩,
   ⟨.faddr 1 (.t 31), some 32, none⟩,
   ⟨.load false 1 (.t 32), some 33, none⟩,
   ⟨.len true (.t 33), some 34, none⟩,
   ⟨.mv (.t 34), some 7, none⟩])
 (.skip))))
 (.keep [1, 5, 6, 7] J9w))))
 (.keep [1, 5, 6] J7r))
def J20 : Jg := .seq (.reg false [] [⟨.mv (.t 5), some 54, none⟩,
  ⟨.mv (.t 5), some 55, none⟩,
  ⟨.len true (.t 55), some 56, none⟩,
  ⟨.bin .sub .plain (.c (.p (.i .i64 244))) (.t 56), some 57, none⟩,
  ⟨.call J3r [(.t 57)] 0, some 58, none⟩,
  ⟨.bin .add .plain (.t 54) (.t 58), some 59, none⟩,
  ⟨.mv (.t 59), some 5, none⟩])
 (.keep [1, 5] (.seq (.reg false [] [⟨.mv (.t 5), some 60, none⟩,
  ⟨.mv (.t 5), some 61, none⟩,
  ⟨.call J5A [(.t 61)] 0, some 62, none⟩,
  ⟨.conv (.int .i64) (.t 62), some 63, none⟩,
  ⟨.call J3O [(.t 60), (.t 63), (.c (.p (.i .i64 4)))] 0, some 64, none⟩,
  ⟨.mv (.t 64), some 5, none⟩])
 (.keep [1, 5] (.seq (.reg false [] [⟨.mv (.t 5), some 65, none⟩,
  ⟨.faddr 1 (.t 1), some 66, none⟩,
  ⟨.load false 1 (.t 66), some 67, none⟩,
  ⟨.call J3O [(.t 65), (.t 67), (.c (.p (.i .i64 8)))] 0, some 68, none⟩,
  ⟨.mv (.t 68), some 2, none⟩,
  ⟨.mv (.c (.p (.i .i64 0))), some 3, none⟩])
 (.ret)))))
def J4Q : Jg := .seq (.reg false [] [⟨.box 34 (.t 0), some 1, none⟩,
  ⟨.mv (.c (.p (.s []))), some 2, none⟩,
  ⟨.mv (.c (.p (.i .i64 0))), some 3, none⟩])
 (.keep [1] (.seq (.seq (.reg false [] [⟨.load true 34 (.t 1), some 8, none⟩,
  ⟨.call J6f [(.t 8)] 0, some 9, none⟩,
  ⟨.mv (.t 9), some 4, none⟩])
 (.keep [1, 4] (.seq (.reg false [] [⟨.mv (.t 4), some 10, none⟩,
  ⟨.bin .neq .plain (.t 10) (.c (.p (.i .i64 0))), some 11, none⟩])
 (.cond (.t 11)
 (.seq (.reg false [] [⟨.mv (.t 4), some 12, none⟩,
   ⟨.mv (.c (.p (.s []))), some 2, none⟩,
   ⟨.mv (.t 12), some 3, none⟩])
  (.ret))
 (.skip)))))
 (.seq (.reg false [] [⟨.faddr 1 (.t 1), some 13, none⟩,
  ⟨.load false 1 (.t 13), some 14, none⟩,
  ⟨.call J3O [(.c (.p (.s []))), (.t 14), (.c (.p (.i .i64 8)))] 0, some 15, none⟩,
  ⟨.mv (.t 15), some 5, none⟩])
 (.keep [1, 5] (.seq (.reg false [] [⟨.mv (.t 5), some 16, none⟩,
  ⟨.faddr 0 (.t 1), some 17, none⟩,
  ⟨.load false 1 (.t 17), some 18, none⟩,
  ⟨.call J3O [(.t 16), (.t 18), (.c (.p (.i .i64 4)))] 0, some 19, none⟩,
  ⟨.mv (.t 19), some 5, none⟩])
 (.keep [1, 5] (.seq (.seq (.reg false [] [⟨.mv (.c (.p (.i .i64 0))), some 6, none⟩])
 (.block 0 (.loop [1, 5, 6] J0S)))
 (.keep [1, 5] J20))))))))
def J10 : AFn := ⟨1, 69, J4Q, [.tmp 2, .tmp 3], false⟩
def J3T : Jg := .seq (.reg false [] [⟨.mv (.c (.p (.s []))), some 4, none⟩])
 (.seq (.seq (.reg false [] [⟨.mv (.t 0), some 7, none⟩,
  ⟨.call Ji [(.t 7), (.c (.p (.i .i64 6)))] 0, some 8, none⟩])
 (.block 0 (.seq (.reg false [] [⟨.bin .eql .plain (.t 8) (.c (.p (.i .i64 0))), some 10, none⟩,
  ⟨.mv (.t 10), some 9, none⟩])
 (.cond (.t 9)
 (.seq (.reg false [] [⟨.call J5k [] 0, some 11, none⟩,
   ⟨.mv (.t 11), some 4, none⟩])
  (.ret))
 (.seq (.reg false [] [⟨.bin .eql .plain (.t 8) (.c (.p (.i .i64 1))), some 13, none⟩,
   ⟨.mv (.t 13), some 12, none⟩])
  (.cond (.t 12)
  (.seq (.reg false [] [⟨.mv (.t 0), some 14, none⟩,
    ⟨.call J3K [(.t 14)] 0, some 15, none⟩,
    ⟨.mv (.t 15), some 4, none⟩])
   (.ret))
  (.skip)))))))
 (.seq (.reg false [] [⟨.mv (.t 0), some 17, none⟩,
  ⟨.mv (.t 1), some 18, none⟩,
  ⟨.call J4e [(.t 17), (.t 18)] 0, some 19, none⟩,
  ⟨.call J4S [(.t 19)] 0, some 20, none⟩,
  ⟨.mv (.t 20), some 16, none⟩,
  ⟨.extr (.t 16) 0, some 21, none⟩,
  ⟨.extr (.t 16) 1, some 22, none⟩,
  ⟨.mv (.t 21), some 5, none⟩,
  ⟨.mv (.t 22), some 6, none⟩])
 (.keep [5] (.seq (.reg false [] [⟨.mv (.t 5), some 23, none⟩,
  ⟨.mv (.t 23), some 4, none⟩])
 (.ret)))))
def J7c : AFn := ⟨2, 24, J3T, [.tmp 4], false⟩
def J0O : Jg := .seq (.reg false [] [⟨.newbox (J3 default), some 4, none⟩,
  ⟨.mv (.c (.p (.i .i64 0))), some 5, none⟩])
 (.seq (.seq (.reg false [] [⟨.mv (.t 1), some 8, none⟩,
  ⟨.call J5R [(.t 8)] 0, some 9, none⟩,
  ⟨.un .not (.t 9), some 10, none⟩])
 (.keep [0, 1, 4, 10] (.cond (.t 10)
 (.seq (.reg false [] [⟨.build (J3 default) [], some 11, none⟩,
   ⟨.store 34 (.t 4) (.t 11), none, none⟩,
   ⟨.mv (.c (.p (.i .i64 1))), some 5, none⟩])
  (.ret))
 (.skip))))
 (.seq (.reg false [] [⟨.mv (.t 0), some 13, none⟩,
  ⟨.call J6l [(.t 13)] 0, some 14, none⟩,
  ⟨.mv (.t 14), some 12, none⟩,
  ⟨.extr (.t 12) 0, some 15, none⟩,
  ⟨.extr (.t 12) 1, some 16, none⟩,
  ⟨.newbox (J3 default), some 6, none⟩,
  ⟨.store 34 (.t 6) (.t 15), none, none⟩,
  ⟨.mv (.t 16), some 7, none⟩])
 (.keep [1, 4, 6, 7] (.seq (.block 0 (.seq (.reg false [] [⟨.mv (.t 7), some 18, none⟩,
  ⟨.bin .eql .plain (.t 18) (.c (.p (.i .i64 7))), some 19, none⟩,
  ⟨.mv (.t 19), some 17, none⟩])
 (.keep [1, 4, 6, 7, 17] (.cond (.t 17)
 (.seq (.reg false [] [⟨.mv (.t 1), some 20, none⟩,
   ⟨.call J8O [(.t 20)] 0, some 21, none⟩,
   ⟨.store 34 (.t 4) (.t 21), none, none⟩,
   ⟨.mv (.c (.p (.i .i64 0))), some 5, none⟩])
  (.ret))
 (.seq (.reg false [] [⟨.mv (.t 7), some 23, none⟩,
   ⟨.bin .neq .plain (.t 23) (.c (.p (.i .i64 0))), some 24, none⟩,
   ⟨.mv (.t 24), some 22, none⟩])
  (.keep [1, 4, 6, 7, 22] (.cond (.t 22)
  (.seq (.reg false [] [⟨.build (J3 default) [], some 25, none⟩,
    ⟨.mv (.t 7), some 26, none⟩,
    ⟨.store 34 (.t 4) (.t 25), none, none⟩,
    ⟨.mv (.t 26), some 5, none⟩])
   (.ret))
  (.seq (.reg false [] [⟨.faddr 0 (.t 6), some 28, none⟩,
    ⟨.load false 1 (.t 28), some 29, none⟩,
    ⟨.mv (.t 1), some 30, none⟩,
    ⟨.bin .neq .plain (.t 29) (.t 30), some 31, none⟩,
    ⟨.mv (.t 31), some 27, none⟩])
   (.keep [4, 6, 27] (.cond (.t 27)
   (.seq (.reg false [] [⟨.build (J3 default) [], some 32, none⟩,
     ⟨.store 34 (.t 4) (.t 32), none, none⟩,
     ⟨.mv (.c (.p (.i .i64 6))), some 5, none⟩])
    (.ret))
   (.skip)))))))))))
 (.seq (.reg false [] [⟨.load true 34 (.t 6), some 33, none⟩,
  ⟨.store 34 (.t 4) (.t 33), none, none⟩,
  ⟨.mv (.c (.p (.i .i64 0))), some 5, none⟩])
 (.ret))))))
def J56 : AFn := ⟨2, 34, J0O, [.cell 4 true 34, .tmp 5], false⟩
def J9B : Jg := .reg false [] [⟨.mv (.t 7), some 55, none⟩,
  ⟨.bin .add .plain (.t 55) (.c (.p (.i .i64 1))), some 56, none⟩,
  ⟨.mv (.t 56), some 7, none⟩]
def J0z : Jg := .seq (.seq (.reg false [] [⟨.mv (.t 7), some 53, none⟩,
  ⟨.bin .lss .plain (.t 53) (.c (.p (.i .i64 16))), some 54, none⟩])
 (.cond (.t 54)
 (.skip)
 (.exit 1)))
 (.seq (.block 2 (.seq (.reg false [] [⟨.mv (.t 7), some 57, none⟩,
  ⟨.bin .mul .plain (.t 57) (.c (.p (.i .i64 13))), some 58, none⟩,
  ⟨.bin .add .plain (.c (.p (.i .i64 12))) (.t 58), some 59, none⟩,
  ⟨.mv (.t 59), some 8, none⟩])
 (.keep [0, 2, 6, 7, 8] (.seq (.reg false [] [⟨.mv (.t 0), some 60, none⟩,
  ⟨.mv (.t 8), some 61, none⟩,
  ⟨.sidx (.t 60) (.t 61), some 62, none⟩,
  ⟨.conv (.int .i64) (.t 62), some 63, none⟩,
  ⟨.mv (.t 63), some 9, none⟩])
 (.keep [0, 2, 6, 7, 8, 9] (.seq (.seq (.reg false [] [⟨.mv (.t 9), some 64, none⟩,
  ⟨.bin .eql .plain (.t 64) (.c (.p (.i .i64 255))), some 65, none⟩])
 (.cond (.t 65)
 (.exit 2)
 (.skip)))
 (.seq (.seq (.reg false [] [⟨.mv (.t 9), some 66, none⟩,
  ⟨.bin .gtr .plain (.t 66) (.c (.p (.i .i64 12))), some 67, none⟩])
 (.cond (.t 67)
 (.seq (.reg false [] [⟨.build (J3 default) [], some 68, none⟩,
   ⟨.store 34 (.t 2) (.t 68), none, none⟩,
   ⟨.mv (.c (.p (.i .i64 4))), some 3, none⟩])
  (.ret))
 (.skip)))
 (.reg false [] [⟨.mv (.t 7), some 69, none⟩,
  ⟨.mv (.t 0), some 70, none⟩,
  ⟨.mv (.t 8), some 71, none⟩,
  ⟨.bin .add .plain (.t 71) (.c (.p (.i .i64 1))), some 72, none⟩,
  ⟨.mv (.t 8), some 73, none⟩,
  ⟨.bin .add .plain (.t 73) (.c (.p (.i .i64 1))), some 74, none⟩,
  ⟨.mv (.t 9), some 75, none⟩,
  ⟨.bin .add .plain (.t 74) (.t 75), some 76, none⟩,
  ⟨.slice .str (.t 70) (some (.t 72)) (some (.t 76)) none, some 77, none⟩,
  ⟨.build (Jf default) [(0, 1, (.c (.p (.b true)))), (1, 1, (.t 77))], some 78, none⟩,
  ⟨.faddr 2 (.t 6), some 79, none⟩,
  ⟨.aaddr 16 2 (.t 79) (.t 69), some 80, none⟩,
  ⟨.store 2 (.t 80) (.t 78), none, none⟩]))))))))
 (.keep [0, 2, 6, 7] J9B))
def J0U : Jg := .seq (.seq (.reg false [] [⟨.load true 34 (.t 6), some 82, none⟩,
  ⟨.call J4S [(.t 82)] 0, some 83, none⟩,
  ⟨.mv (.t 83), some 81, none⟩,
  ⟨.extr (.t 81) 0, some 84, none⟩,
  ⟨.extr (.t 81) 1, some 85, none⟩,
  ⟨.mv (.t 84), some 10, none⟩,
  ⟨.mv (.t 85), some 11, none⟩])
 (.keep [0, 2, 6, 10, 11] (.seq (.reg false [] [⟨.mv (.t 11), some 86, none⟩,
  ⟨.bin .neq .plain (.t 86) (.c (.p (.i .i64 0))), some 87, none⟩,
  ⟨.mv (.t 87), some 88, none⟩,
  ⟨.mv (.t 10), some 89, some (88, false)⟩,
  ⟨.mv (.t 0), some 90, some (88, false)⟩,
  ⟨.bin .neq .plain (.t 89) (.t 90), some 91, some (88, false)⟩,
  ⟨.pick (.t 88) (.c (.p (.b true))) (.t 91), some 92, none⟩])
 (.keep [2, 6, 92] (.cond (.t 92)
 (.seq (.reg false [] [⟨.build (J3 default) [], some 93, none⟩,
   ⟨.store 34 (.t 2) (.t 93), none, none⟩,
   ⟨.mv (.c (.p (.i .i64 4))), some 3, none⟩])
  (.ret))
 (.skip))))))
 (.seq (.reg false [] [⟨.load true 34 (.t 6), some 94, none⟩,
  ⟨.store 34 (.t 2) (.t 94), none, none⟩,
  ⟨.mv (.c (.p (.i .i64 0))), some 3, none⟩])
 (.ret))
def J1s : Jg := .seq (.reg false [] [⟨.newbox (J3 default), some 2, none⟩,
  ⟨.mv (.c (.p (.i .i64 0))), some 3, none⟩])
 (.seq (.block 0 (.seq (.reg false [] [⟨.mv (.t 0), some 13, none⟩,
  ⟨.len true (.t 13), some 14, none⟩,
  ⟨.bin .neq .plain (.t 14) (.c (.p (.i .i64 256))), some 15, none⟩,
  ⟨.mv (.t 15), some 12, none⟩])
 (.keep [0, 2, 12] (.cond (.t 12)
 (.seq (.reg false [] [⟨.build (J3 default) [], some 16, none⟩,
   ⟨.store 34 (.t 2) (.t 16), none, none⟩,
   ⟨.mv (.c (.p (.i .i64 2))), some 3, none⟩])
  (.ret))
 (.seq (.reg false [] [⟨.mv (.t 0), some 18, none⟩,
   ⟨.call J5k [] 0, some 19, none⟩,
   ⟨.bin .eql .plain (.t 18) (.t 19), some 20, none⟩,
   ⟨.mv (.t 20), some 17, none⟩])
  (.keep [0, 2, 17] (.cond (.t 17)
  (.seq (.reg false [] [⟨.build (J3 default) [], some 21, none⟩,
    ⟨.store 34 (.t 2) (.t 21), none, none⟩,
    ⟨.mv (.c (.p (.i .i64 7))), some 3, none⟩])
   (.ret))
  (.seq (.reg true [] [⟨.mv (.t 0), some 23, none⟩,
    ⟨.slice .str (.t 23) none (some (.c (.p (.i .i64 8)))) none, some 24, none⟩,
    ⟨.mv (.t 0), some 25, none⟩,
    ⟨.slice .str (.t 25) (some (.c (.p (.i .i64 248)))) none none, some 26, none⟩,
    ⟨.bin .neq .plain (.t 24) (.t 26), some 27, none⟩,
    ⟨.mv (.t 27), some 22, none⟩])
   (.keep [0, 2, 22] (.cond (.t 22)
   (.seq (.reg false [] [⟨.build (J3 default) [], some 28, none⟩,
     ⟨.store 34 (.t 2) (.t 28), none, none⟩,
     ⟨.mv (.c (.p (.i .i64 27))), some 3, none⟩])
    (.ret))
   (.skip)))))))))))
 (.seq (.reg false [] [⟨.mv (.t 0), some 30, none⟩,
  ⟨.call J3h [(.t 30), (.c (.p (.i .i64 244))), (.c (.p (.i .i64 4)))] 0, some 31, none⟩,
  ⟨.mv (.t 31), some 29, none⟩,
  ⟨.extr (.t 29) 0, some 32, none⟩,
  ⟨.extr (.t 29) 1, some 33, none⟩,
  ⟨.mv (.t 32), some 4, none⟩,
  ⟨.mv (.t 33), some 5, none⟩])
 (.keep [0, 2, 4] (.seq (.seq (.reg false [] [⟨.mv (.t 4), some 34, none⟩,
  ⟨.conv (.int .u32) (.t 34), some 35, none⟩,
  ⟨.mv (.t 0), some 36, none⟩,
  ⟨.slice .str (.t 36) none (some (.c (.p (.i .i64 244)))) none, some 37, none⟩,
  ⟨.call J5A [(.t 37)] 0, some 38, none⟩,
  ⟨.bin .neq .plain (.t 35) (.t 38), some 39, none⟩])
 (.keep [0, 2, 39] (.cond (.t 39)
 (.seq (.reg false [] [⟨.build (J3 default) [], some 40, none⟩,
   ⟨.store 34 (.t 2) (.t 40), none, none⟩,
   ⟨.mv (.c (.p (.i .i64 3))), some 3, none⟩])
  (.ret))
 (.skip))))
 (.seq (.reg false [] [⟨.newbox (J3 default), some 6, none⟩])
 (.seq (.reg false [] [⟨.mv (.t 0), some 42, none⟩,
  ⟨.call J3h [(.t 42), (.c (.p (.i .i64 0))), (.c (.p (.i .i64 8)))] 0, some 43, none⟩,
  ⟨.mv (.t 43), some 41, none⟩,
  ⟨.extr (.t 41) 0, some 44, none⟩,
  ⟨.extr (.t 41) 1, some 45, none⟩,
  ⟨.faddr 1 (.t 6), some 46, none⟩,
  ⟨.store 1 (.t 46) (.t 44), none, none⟩])
 (.keep [0, 2, 6] (.seq (.reg false [] [⟨.mv (.t 0), some 48, none⟩,
  ⟨.call J3h [(.t 48), (.c (.p (.i .i64 8))), (.c (.p (.i .i64 4)))] 0, some 49, none⟩,
  ⟨.mv (.t 49), some 47, none⟩,
  ⟨.extr (.t 47) 0, some 50, none⟩,
  ⟨.extr (.t 47) 1, some 51, none⟩,
  ⟨.faddr 0 (.t 6), some 52, none⟩,
  ⟨.store 1 (.t 52) (.t 50), none, none⟩])
 (.keep [0, 2, 6] (.seq (.seq (.reg false [] [⟨.mv (.c (.p (.i .i64 0))), some 7, none⟩])
 (.block 1 (.loop [0, 2, 6, 7] J0z)))
 (.keep [0, 2, 6] J0U)))))))))))
def J1p : AFn := ⟨1, 95, J1s, [.cell 2 true 34, .tmp 3], false⟩
def JL : Jg := .seq (.reg false [] [⟨.bin .lss .plain (.t 36) (.t 35), some 37, none⟩])
 (.seq (.cond (.t 37)
 (.skip)
 (.exit 0))
 (.seq (.block 1 (.seq (.reg false [] [⟨.mv (.t 36), some 38, none⟩,
  ⟨.mv (.t 38), some 3, none⟩])
 (.seq (.reg false [] [⟨.faddr 2 (.t 1), some 39, none⟩,
  ⟨.load false 1 (.t 39), some 40, none⟩,
  ⟨.mv (.t 3), some 41, none⟩,
  ⟨.iaddr 3 (.t 40) (.t 41), some 42, none⟩,
  ⟨.load true 3 (.t 42), some 43, none⟩,
  ⟨.newbox (J5 default), some 4, none⟩,
  ⟨.store 3 (.t 4) (.t 43), none, none⟩])
 (.keep [1, 3, 4, 35, 36] (.seq (.seq (.reg true [] [⟨.faddr 0 (.t 4), some 44, none⟩,
  ⟨.load false 1 (.t 44), some 45, none⟩,
  ⟨.faddr 1 (.t 1), some 46, none⟩,
  ⟨.load false 1 (.t 46), some 47, none⟩,
  ⟨.bin .geq .plain (.t 45) (.t 47), some 48, none⟩,
  ⟨.mv (.t 48), some 49, none⟩,
  ⟨.mv (.t 3), some 50, some (49, false)⟩,
  ⟨.bin .gtr .plain (.t 50) (.c (.p (.i .i64 0))), some 51, some (49, false)⟩,
  ⟨.mv (.t 51), some 52, some (49, false)⟩,
  ⟨.faddr 2 (.t 1), some 53, some (52, true)⟩,
  ⟨.load false 1 (.t 53), some 54, some (52, true)⟩,
  ⟨.mv (.t 3), some 55, some (52, true)⟩,
  ⟨.bin .sub .plain (.t 55) (.c (.p (.i .i64 1))), some 56, some (52, true)⟩,
  ⟨.iaddr 3 (.t 54) (.t 56), some 57, some (52, true)⟩,
  ⟨.faddr 0 (.t 57), some 58, some (52, true)⟩,
  ⟨.load false 1 (.t 58), some 59, some (52, true)⟩,
  ⟨.faddr 0 (.t 4), some 60, some (52, true)⟩,
  ⟨.load false 1 (.t 60), some 61, some (52, true)⟩,
  ⟨.bin .geq .plain (.t 59) (.t 61), some 62, some (52, true)⟩,
  ⟨.pick (.t 52) (.t 62) (.c (.p (.b false))), some 63, some (49, false)⟩,
  ⟨.pick (.t 49) (.c (.p (.b true))) (.t 63), some 64, none⟩])
 (.keep [1, 4, 35, 36, 64] (.cond (.t 64)
 (.seq (.reg false [] [⟨.mv (.c (.p (.b false))), some 2, none⟩])
  (.ret))
 (.skip))))
 (.seq (.reg false [] [⟨.faddr 2 (.t 4), some 66, none⟩,
  ⟨.load false 1 (.t 66), some 67, none⟩,
  ⟨.faddr 0 (.t 4), some 68, none⟩,
  ⟨.load false 1 (.t 68), some 69, none⟩,
  ⟨.call J34 [(.t 67), (.t 69)] 0, some 70, none⟩,
  ⟨.mv (.t 70), some 65, none⟩,
  ⟨.extr (.t 65) 0, some 71, none⟩,
  ⟨.extr (.t 65) 1, some 72, none⟩,
  ⟨.newbox (J3 default), some 5, none⟩,
  ⟨.store 34 (.t 5) (.t 71), none, none⟩,
  ⟨.mv (.t 72), some 6, none⟩])
 (.keep [1, 4, 5, 6, 35, 36] (.seq (.reg false [] [⟨.mv (.t 6), some 73, none⟩,
  ⟨.bin .neq .plain (.t 73) (.c (.p (.i .i64 0))), some 74, none⟩,
  ⟨.mv (.t 74), some 75, none⟩,
  ⟨.faddr 1 (.t 5), some 76, some (75, false)⟩,
  ⟨.load false 1 (.t 76), some 77, some (75, false)⟩,
  ⟨.faddr 1 (.t 4), some 78, some (75, false)⟩,
  ⟨.load false 1 (.t 78), some 79, some (75, false)⟩,
  ⟨.bin .neq .plain (.t 77) (.t 79), some 80, some (75, false)⟩,
  ⟨.pick (.t 75) (.c (.p (.b true))) (.t 80), some 81, none⟩])
 (.keep [1, 35, 36, 81] (.cond (.t 81)
 (.seq (.reg false [] [⟨.mv (.c (.p (.b false))), some 2, none⟩])
  (.ret))
 (.skip)))))))))))
 (.reg false [] [⟨.bin .add .plain (.t 36) (.c (.p (.i .i64 1))), some 82, none⟩,
  ⟨.mv (.t 82), some 36, none⟩])))
def J3X : Jg := .seq (.reg false [] [⟨.mv (.c (.p (.b true))), some 2, none⟩])
 (.ret)
def J16 : Jg := .seq (.reg false [] [⟨.box 3 (.t 0), some 1, none⟩,
  ⟨.mv (.c (.p (.b false))), some 2, none⟩])
 (.seq (.seq (.reg false [] [⟨.faddr 0 (.t 1), some 7, none⟩,
  ⟨.load false 1 (.t 7), some 8, none⟩,
  ⟨.bin .lss .plain (.t 8) (.c (.p (.i .i64 1))), some 9, none⟩,
  ⟨.mv (.t 9), some 10, none⟩,
  ⟨.faddr 0 (.t 1), some 11, some (10, false)⟩,
  ⟨.load false 1 (.t 11), some 12, some (10, false)⟩,
  ⟨.bin .gtr .plain (.t 12) (.c (.p (.i .i64 1073741824))), some 13, some (10, false)⟩,
  ⟨.pick (.t 10) (.c (.p (.b true))) (.t 13), some 14, none⟩,
  ⟨.mv (.t 14), some 15, none⟩,
  ⟨.faddr 1 (.t 1), some 16, some (15, false)⟩,
  ⟨.load false 1 (.t 16), some 17, some (15, false)⟩,
  ⟨.bin .lss .plain (.t 17) (.c (.p (.i .i64 1))), some 18, some (15, false)⟩,
  ⟨.pick (.t 15) (.c (.p (.b true))) (.t 18), some 19, none⟩,
  ⟨.mv (.t 19), some 20, none⟩,
  ⟨.faddr 1 (.t 1), some 21, some (20, false)⟩,
  ⟨.load false 1 (.t 21), some 22, some (20, false)⟩,
  ⟨.bin .gtr .plain (.t 22) (.c (.p (.i .i64 64))), some 23, some (20, false)⟩,
  ⟨.pick (.t 20) (.c (.p (.b true))) (.t 23), some 24, none⟩,
  ⟨.mv (.t 24), some 25, none⟩,
  ⟨.faddr 2 (.t 1), some 26, some (25, false)⟩,
  ⟨.load false 1 (.t 26), some 27, some (25, false)⟩,
  ⟨.len false (.t 27), some 28, some (25, false)⟩,
  ⟨.faddr 1 (.t 1), some 29, some (25, false)⟩,
  ⟨.load false 1 (.t 29), some 30, some (25, false)⟩,
  ⟨.bin .gtr .plain (.t 28) (.t 30), some 31, some (25, false)⟩,
  ⟨.pick (.t 25) (.c (.p (.b true))) (.t 31), some 32, none⟩])
 (.keep [1, 32] (.cond (.t 32)
 (.seq (.reg false [] [⟨.mv (.c (.p (.b false))), some 2, none⟩])
  (.ret))
 (.skip))))
 (.seq (.tidy [2] (.seq (.reg false [] [⟨.faddr 2 (.t 1), some 33, none⟩,
  ⟨.load false 1 (.t 33), some 34, none⟩,
  ⟨.len false (.t 34), some 35, none⟩,
  ⟨.mv (.c (.p (.i .i64 0))), some 36, none⟩])
 (.keep [1, 35, 36] (.block 0 (.loop [1, 35, 36] JL)))))
 (.keep [] J3X)))
def J27 : AFn := ⟨1, 83, J16, [.tmp 2], false⟩
def J61 : Jg := .seq (.reg false [] [⟨.newbox (J5 default), some 2, none⟩])
 (.seq (.reg false [] [⟨.mv (.t 0), some 6, none⟩,
  ⟨.slice .str (.t 6) (some (.c (.p (.i .i64 2)))) none none, some 7, none⟩,
  ⟨.build (J5 default) [(2, 1, (.t 7))], some 8, none⟩,
  ⟨.newbox (J5 default), some 3, none⟩,
  ⟨.store 3 (.t 3) (.t 8), none, none⟩])
 (.keep [0, 2, 3] (.seq (.reg false [] [⟨.mv (.t 0), some 10, none⟩,
  ⟨.call J2H [(.t 10), (.c (.p (.i .i64 0))), (.c (.p (.i .i64 2)))] 0, some 11, none⟩,
  ⟨.mv (.t 11), some 9, none⟩,
  ⟨.extr (.t 9) 0, some 12, none⟩,
  ⟨.extr (.t 9) 1, some 13, none⟩,
  ⟨.faddr 0 (.t 3), some 14, none⟩,
  ⟨.store 1 (.t 14) (.t 12), none, none⟩])
 (.keep [2, 3] (.seq (.reg false [] [⟨.faddr 2 (.t 3), some 16, none⟩,
  ⟨.load false 1 (.t 16), some 17, none⟩,
  ⟨.faddr 0 (.t 3), some 18, none⟩,
  ⟨.load false 1 (.t 18), some 19, none⟩,
  ⟨.call J34 [(.t 17), (.t 19)] 0, some 20, none⟩,
  ⟨.mv (.t 20), some 15, none⟩,
  ⟨.extr (.t 15) 0, some 21, none⟩,
  ⟨.extr (.t 15) 1, some 22, none⟩,
  ⟨.newbox (J3 default), some 4, none⟩,
  ⟨.store 34 (.t 4) (.t 21), none, none⟩,
  ⟨.mv (.t 22), some 5, none⟩])
 (.keep [2, 3, 4] (.seq (.reg false [] [⟨.faddr 1 (.t 4), some 23, none⟩,
  ⟨.load false 1 (.t 23), some 24, none⟩,
  ⟨.faddr 1 (.t 3), some 25, none⟩,
  ⟨.store 1 (.t 25) (.t 24), none, none⟩])
 (.keep [2, 3] (.seq (.reg false [] [⟨.load true 3 (.t 3), some 26, none⟩,
  ⟨.store 3 (.t 2) (.t 26), none, none⟩])
 (.ret))))))))))
def J4N : AFn := ⟨1, 27, J61, [.cell 2 true 3], false⟩
def J0g : Jg := .seq (.reg false [] [⟨.newbox (J3 default), some 4, none⟩,
  ⟨.mv (.c (.p (.i .i64 0))), some 5, none⟩])
 (.seq (.seq (.reg false [] [⟨.mv (.t 1), some 8, none⟩,
  ⟨.bin .lss .plain (.t 8) (.c (.p (.i .i64 0))), some 9, none⟩,
  ⟨.mv (.t 9), some 10, none⟩,
  ⟨.mv (.t 1), some 11, some (10, false)⟩,
  ⟨.bin .geq .plain (.t 11) (.c (.p (.i .i64 64))), some 12, some (10, false)⟩,
  ⟨.pick (.t 10) (.c (.p (.b true))) (.t 12), some 13, none⟩])
 (.keep [0, 1, 4, 13] (.cond (.t 13)
 (.seq (.reg false [] [⟨.build (J3 default) [], some 14, none⟩,
   ⟨.store 34 (.t 4) (.t 14), none, none⟩,
   ⟨.mv (.c (.p (.i .i64 1))), some 5, none⟩])
  (.ret))
 (.skip))))
 (.seq (.reg false [] [⟨.mv (.t 0), some 16, none⟩,
  ⟨.call J5H [(.t 16)] 0, some 17, none⟩,
  ⟨.mv (.t 17), some 15, none⟩,
  ⟨.extr (.t 15) 0, some 18, none⟩,
  ⟨.extr (.t 15) 1, some 19, none⟩,
  ⟨.newbox (J3 default), some 6, none⟩,
  ⟨.store 34 (.t 6) (.t 18), none, none⟩,
  ⟨.mv (.t 19), some 7, none⟩])
 (.keep [1, 4, 6, 7] (.seq (.seq (.reg false [] [⟨.mv (.t 7), some 20, none⟩,
  ⟨.bin .eql .plain (.t 20) (.c (.p (.i .i64 7))), some 21, none⟩])
 (.cond (.t 21)
 (.seq (.reg false [] [⟨.mv (.t 1), some 22, none⟩,
   ⟨.call J7Z [(.t 22)] 0, some 23, none⟩,
   ⟨.store 34 (.t 4) (.t 23), none, none⟩,
   ⟨.mv (.c (.p (.i .i64 0))), some 5, none⟩])
  (.ret))
 (.skip)))
 (.seq (.seq (.reg false [] [⟨.mv (.t 7), some 24, none⟩,
  ⟨.bin .eql .plain (.t 24) (.c (.p (.i .i64 0))), some 25, none⟩,
  ⟨.mv (.t 25), some 26, none⟩,
  ⟨.faddr 0 (.t 6), some 27, some (26, true)⟩,
  ⟨.load false 1 (.t 27), some 28, some (26, true)⟩,
  ⟨.mv (.t 1), some 29, some (26, true)⟩,
  ⟨.bin .neq .plain (.t 28) (.t 29), some 30, some (26, true)⟩,
  ⟨.pick (.t 26) (.t 30) (.c (.p (.b false))), some 31, none⟩])
 (.keep [4, 6, 7, 31] (.cond (.t 31)
 (.seq (.reg false [] [⟨.build (J3 default) [], some 32, none⟩,
   ⟨.store 34 (.t 4) (.t 32), none, none⟩,
   ⟨.mv (.c (.p (.i .i64 6))), some 5, none⟩])
  (.ret))
 (.skip))))
 (.seq (.reg false [] [⟨.load true 34 (.t 6), some 33, none⟩,
  ⟨.mv (.t 7), some 34, none⟩,
  ⟨.store 34 (.t 4) (.t 33), none, none⟩,
  ⟨.mv (.t 34), some 5, none⟩])
 (.ret)))))))
def J4P : AFn := ⟨2, 35, J0g, [.cell 4 true 34, .tmp 5], false⟩
def J0T : Jg := .seq (.reg false [] [⟨.bin .lss .plain (.t 50) (.t 49), some 51, none⟩])
 (.seq (.cond (.t 51)
 (.skip)
 (.exit 0))
 (.seq (.block 1 (.seq (.seq (.reg false [] [⟨.mv (.t 0), some 53, none⟩,
  ⟨.mv (.t 5), some 54, none⟩,
  ⟨.call J3V [(.t 53), (.t 54)] 0, some 55, none⟩,
  ⟨.mv (.t 55), some 52, none⟩,
  ⟨.extr (.t 52) 0, some 56, none⟩,
  ⟨.extr (.t 52) 1, some 57, none⟩,
  ⟨.extr (.t 52) 2, some 58, none⟩,
  ⟨.mv (.t 56), some 4, none⟩,
  ⟨.mv (.t 57), some 5, none⟩,
  ⟨.mv (.t 58), some 6, none⟩])
 (.keep [0, 2, 4, 5, 6, 7, 49, 50] (.seq (.reg false [] [⟨.mv (.t 6), some 59, none⟩,
  ⟨.bin .neq .plain (.t 59) (.c (.p (.i .i64 0))), some 60, none⟩])
 (.cond (.t 60)
 (.seq (.reg false [] [⟨.buildo (J7 default) [] [(2, 3)], some 61, none⟩,
   ⟨.mv (.t 6), some 62, none⟩,
   ⟨.store 3 (.t 2) (.t 61), none, none⟩,
   ⟨.mv (.t 62), some 3, none⟩])
  (.ret))
 (.skip)))))
 (.seq (.seq (.reg false [] [⟨.mv (.t 4), some 63, none⟩,
  ⟨.len true (.t 63), some 64, none⟩,
  ⟨.bin .neq .plain (.t 64) (.c (.p (.i .i64 258))), some 65, none⟩])
 (.keep [0, 2, 4, 5, 7, 49, 50, 65] (.cond (.t 65)
 (.seq (.reg false [] [⟨.buildo (J7 default) [] [(2, 3)], some 66, none⟩,
   ⟨.store 3 (.t 2) (.t 66), none, none⟩,
   ⟨.mv (.c (.p (.i .i64 4))), some 3, none⟩])
  (.ret))
 (.skip))))
 (.reg true [(1, 3), (1, 4)] [⟨.faddr 2 (.t 7), some 67, none⟩,
  ⟨.load false 1 (.t 67), some 68, none⟩,
  ⟨.mv (.t 4), some 69, none⟩,
  ⟨.call J3t [(.t 69)] 0, some 70, none⟩,
  ⟨.lits false 3 1 (J5 default) [(0, (.t 70))], some 71, none⟩,
  ⟨.app 3 32 (J5 default) (.t 68) (.t 71), some 72, none⟩,
  ⟨.faddr 2 (.t 7), some 73, none⟩,
  ⟨.store 1 (.t 73) (.t 72), none, none⟩]))))
 (.reg false [] [⟨.bin .add .plain (.t 50) (.c (.p (.i .i64 1))), some 74, none⟩,
  ⟨.mv (.t 74), some 50, none⟩])))
def J1B : Jg := .seq (.block 2 (.seq (.reg false [] [⟨.mv (.t 5), some 76, none⟩,
  ⟨.mv (.t 0), some 77, none⟩,
  ⟨.len true (.t 77), some 78, none⟩,
  ⟨.bin .lss .plain (.t 76) (.t 78), some 79, none⟩,
  ⟨.mv (.t 79), some 75, none⟩])
 (.keep [2, 7, 75] (.cond (.t 75)
 (.seq (.reg false [] [⟨.buildo (J7 default) [] [(2, 3)], some 80, none⟩,
   ⟨.store 3 (.t 2) (.t 80), none, none⟩,
   ⟨.mv (.c (.p (.i .i64 4))), some 3, none⟩])
  (.ret))
 (.seq (.reg false [] [⟨.load true 3 (.t 7), some 82, none⟩,
   ⟨.call J4q [(.t 82)] 0, some 83, none⟩,
   ⟨.un .not (.t 83), some 84, none⟩,
   ⟨.mv (.t 84), some 81, none⟩])
  (.keep [2, 7, 81] (.cond (.t 81)
  (.seq (.reg false [] [⟨.buildo (J7 default) [] [(2, 3)], some 85, none⟩,
    ⟨.store 3 (.t 2) (.t 85), none, none⟩,
    ⟨.mv (.c (.p (.i .i64 43))), some 3, none⟩])
   (.ret))
  (.skip))))))))
 (.seq (.reg false [] [⟨.load true 3 (.t 7), some 86, none⟩,
  ⟨.store 3 (.t 2) (.t 86), none, none⟩,
  ⟨.mv (.c (.p (.i .i64 0))), some 3, none⟩])
 (.ret))
def J13 : Jg := .seq (.reg false [] [⟨.newboxo (J7 default) [(2, 3)], some 2, none⟩,
  ⟨.mv (.c (.p (.i .i64 0))), some 3, none⟩])
 (.seq (.reg false [] [⟨.mv (.t 0), some 11, none⟩,
  ⟨.call J3V [(.t 11), (.c (.p (.i .i64 0)))] 0, some 12, none⟩,
  ⟨.mv (.t 12), some 10, none⟩,
  ⟨.extr (.t 10) 0, some 13, none⟩,
  ⟨.extr (.t 10) 1, some 14, none⟩,
  ⟨.extr (.t 10) 2, some 15, none⟩,
  ⟨.mv (.t 13), some 4, none⟩,
  ⟨.mv (.t 14), some 5, none⟩,
  ⟨.mv (.t 15), some 6, none⟩])
 (.keep [0, 2, 4, 5, 6] (.seq (.seq (.reg false [] [⟨.mv (.t 6), some 16, none⟩,
  ⟨.bin .neq .plain (.t 16) (.c (.p (.i .i64 0))), some 17, none⟩])
 (.cond (.t 17)
 (.seq (.reg false [] [⟨.buildo (J7 default) [] [(2, 3)], some 18, none⟩,
   ⟨.mv (.t 6), some 19, none⟩,
   ⟨.store 3 (.t 2) (.t 18), none, none⟩,
   ⟨.mv (.t 19), some 3, none⟩])
  (.ret))
 (.skip)))
 (.seq (.seq (.reg false [] [⟨.mv (.t 4), some 20, none⟩,
  ⟨.len true (.t 20), some 21, none⟩,
  ⟨.bin .neq .plain (.t 21) (.c (.p (.i .i64 12))), some 22, none⟩,
  ⟨.mv (.t 22), some 23, none⟩,
  ⟨.mv (.t 4), some 24, some (23, false)⟩,
  ⟨.call J37 [(.t 24), (.c (.p (.s [80, 77, 73, 77])))] 0, some 25, some (23, false)⟩,
  ⟨.un .not (.t 25), some 26, some (23, false)⟩,
  ⟨.pick (.t 23) (.c (.p (.b true))) (.t 26), some 27, none⟩])
 (.keep [0, 2, 4, 5, 27] (.cond (.t 27)
 (.seq (.reg false [] [⟨.buildo (J7 default) [] [(2, 3)], some 28, none⟩,
   ⟨.store 3 (.t 2) (.t 28), none, none⟩,
   ⟨.mv (.c (.p (.i .i64 4))), some 3, none⟩])
  (.ret))
 (.skip))))
 (.seq (.reg false [] [⟨.newboxo (J7 default) [(2, 3)], some 7, none⟩])
 (.seq (.reg false [] [⟨.mv (.t 4), some 30, none⟩,
  ⟨.call J2H [(.t 30), (.c (.p (.i .i64 4))), (.c (.p (.i .i64 4)))] 0, some 31, none⟩,
  ⟨.mv (.t 31), some 29, none⟩,
  ⟨.extr (.t 29) 0, some 32, none⟩,
  ⟨.extr (.t 29) 1, some 33, none⟩,
  ⟨.faddr 0 (.t 7), some 34, none⟩,
  ⟨.store 1 (.t 34) (.t 32), none, none⟩])
 (.keep [0, 2, 4, 5, 7] (.seq (.reg false [] [⟨.mv (.t 4), some 36, none⟩,
  ⟨.call J2H [(.t 36), (.c (.p (.i .i64 8))), (.c (.p (.i .i64 2)))] 0, some 37, none⟩,
  ⟨.mv (.t 37), some 35, none⟩,
  ⟨.extr (.t 35) 0, some 38, none⟩,
  ⟨.extr (.t 35) 1, some 39, none⟩,
  ⟨.faddr 1 (.t 7), some 40, none⟩,
  ⟨.store 1 (.t 40) (.t 38), none, none⟩])
 (.keep [0, 2, 4, 5, 7] (.seq (.reg false [] [⟨.mv (.t 4), some 42, none⟩,
  ⟨.call J2H [(.t 42), (.c (.p (.i .i64 10))), (.c (.p (.i .i64 2)))] 0, some 43, none⟩,
  ⟨.mv (.t 43), some 41, none⟩,
  ⟨.extr (.t 41) 0, some 44, none⟩,
  ⟨.extr (.t 41) 1, some 45, none⟩,
  ⟨.mv (.t 44), some 8, none⟩,
  ⟨.mv (.t 45), some 9, none⟩])
 (.keep [0, 2, 5, 7, 8] (.seq (.seq (.reg false [] [⟨.mv (.t 8), some 46, none⟩,
  ⟨.bin .gtr .plain (.t 46) (.c (.p (.i .i64 64))), some 47, none⟩])
 (.cond (.t 47)
 (.seq (.reg false [] [⟨.buildo (J7 default) [] [(2, 3)], some 48, none⟩,
   ⟨.store 3 (.t 2) (.t 48), none, none⟩,
   ⟨.mv (.c (.p (.i .i64 4))), some 3, none⟩])
  (.ret))
 (.skip)))
 (.seq (.tidy [0, 2, 3, 5, 7] (.seq (.reg false [] [⟨.mv (.t 8), some 49, none⟩,
  ⟨.mv (.c (.p (.i .i64 0))), some 50, none⟩])
 (.block 0 (.loop [0, 2, 5, 7, 49, 50] J0T))))
 (.keep [0, 2, 5, 7] J1B))))))))))))))
def J1M : AFn := ⟨1, 87, J13, [.cell 2 true 3, .tmp 3], false⟩
def Jl6 : Jg := .seq (.reg false [] [⟨.faddr 2 (.t 3), some 56, none⟩,
  ⟨.load false 1 (.t 56), some 57, none⟩,
  ⟨.mv (.t 10), some 58, none⟩,
  ⟨.mv (.t 1), some 59, none⟩,
  ⟨.faddr 1 (.t 8), some 60, none⟩,
  ⟨.load false 1 (.t 60), some 61, none⟩,
  ⟨.mv (.t 2), some 62, none⟩,
  ⟨.build (J5 default) [(0, 1, (.t 59)), (1, 1, (.t 61)), (2, 1, (.t 62))], some 63, none⟩,
  ⟨.iaddr 3 (.t 57) (.t 58), some 64, none⟩,
  ⟨.store 3 (.t 64) (.t 63), none, none⟩])
 (.keep [3, 6] (.seq (.reg false [] [⟨.load true 3 (.t 3), some 65, none⟩,
  ⟨.store 3 (.t 6) (.t 65), none, none⟩,
  ⟨.mv (.c (.p (.i .i64 0))), some 7, none⟩])
 (.ret)))
def Jd1 : Jg := .seq (.reg false [] [⟨.box 3 (.t 0), some 3, none⟩,
  ⟨.newbox (J7 default), some 6, none⟩,
  ⟨.mv (.c (.p (.i .i64 0))), some 7, none⟩])
 (.keep [1, 2, 3, 6] (.seq (.block 0 (.seq (.reg false [] [⟨.load true 3 (.t 3), some 13, none⟩,
  ⟨.call J4q [(.t 13)] 0, some 14, none⟩,
  ⟨.un .not (.t 14), some 15, none⟩,
  ⟨.mv (.t 15), some 12, none⟩])
 (.keep [1, 2, 3, 6, 12] (.cond (.t 12)
 (.seq (.reg false [] [⟨.build (J7 default) [], some 16, none⟩,
   ⟨.store 3 (.t 6) (.t 16), none, none⟩,
   ⟨.mv (.c (.p (.i .i64 43))), some 7, none⟩])
  (.ret))
 (.seq (.reg false [] [⟨.mv (.t 1), some 18, none⟩,
   ⟨.bin .lss .plain (.t 18) (.c (.p (.i .i64 0))), some 19, none⟩,
   ⟨.mv (.t 19), some 20, none⟩,
   ⟨.mv (.t 1), some 21, some (20, false)⟩,
   ⟨.faddr 1 (.t 3), some 22, some (20, false)⟩,
   ⟨.load false 1 (.t 22), some 23, some (20, false)⟩,
   ⟨.bin .geq .plain (.t 21) (.t 23), some 24, some (20, false)⟩,
   ⟨.pick (.t 20) (.c (.p (.b true))) (.t 24), some 25, none⟩,
   ⟨.mv (.t 25), some 17, none⟩])
  (.keep [1, 2, 3, 6, 17] (.cond (.t 17)
  (.seq (.reg false [] [⟨.build (J7 default) [], some 26, none⟩,
    ⟨.store 3 (.t 6) (.t 26), none, none⟩,
    ⟨.mv (.c (.p (.i .i64 1))), some 7, none⟩])
   (.ret))
  (.skip))))))))
 (.seq (.reg false [] [⟨.mv (.t 2), some 28, none⟩,
  ⟨.mv (.t 1), some 29, none⟩,
  ⟨.call J34 [(.t 28), (.t 29)] 0, some 30, none⟩,
  ⟨.mv (.t 30), some 27, none⟩,
  ⟨.extr (.t 27) 0, some 31, none⟩,
  ⟨.extr (.t 27) 1, some 32, none⟩,
  ⟨.newbox (J3 default), some 8, none⟩,
  ⟨.store 34 (.t 8) (.t 31), none, none⟩,
  ⟨.mv (.t 32), some 9, none⟩])
 (.keep [1, 2, 3, 6, 8, 9] (.seq (.seq (.reg false [] [⟨.mv (.t 9), some 33, none⟩,
  ⟨.bin .neq .plain (.t 33) (.c (.p (.i .i64 0))), some 34, none⟩])
 (.cond (.t 34)
 (.seq (.reg false [] [⟨.build (J7 default) [], some 35, none⟩,
   ⟨.mv (.t 9), some 36, none⟩,
   ⟨.store 3 (.t 6) (.t 35), none, none⟩,
   ⟨.mv (.t 36), some 7, none⟩])
  (.ret))
 (.skip)))
 (.seq (.reg false [] [⟨.load true 3 (.t 3), some 38, none⟩,
  ⟨.mv (.t 1), some 39, none⟩,
  ⟨.call Jb4 [(.t 38), (.t 39)] 0, some 40, none⟩,
  ⟨.mv (.t 40), some 37, none⟩,
  ⟨.extr (.t 37) 0, some 41, none⟩,
  ⟨.extr (.t 37) 1, some 42, none⟩,
  ⟨.mv (.t 41), some 10, none⟩,
  ⟨.mv (.t 42), some 11, none⟩])
 (.keep [1, 2, 3, 6, 8, 10, 11] (.seq (.reg false [] [⟨.faddr 2 (.t 3), some 43, none⟩,
  ⟨.load false 1 (.t 43), some 44, none⟩,
  ⟨.call J3A [(.t 44)] 1, some 45, none⟩,
  ⟨.faddr 2 (.t 3), some 46, none⟩,
  ⟨.store 1 (.t 46) (.t 45), none, none⟩])
 (.keep [1, 2, 3, 6, 8, 10, 11] (.seq (.tidy [1, 2, 3, 6, 7, 8, 10] (.seq (.reg false [] [⟨.mv (.t 11), some 47, none⟩,
  ⟨.un .not (.t 47), some 48, none⟩])
 (.cond (.t 48)
 (.reg false [] [⟨.faddr 2 (.t 3), some 49, none⟩,
   ⟨.load false 1 (.t 49), some 50, none⟩,
   ⟨.mv (.t 10), some 51, none⟩,
   ⟨.build (J5 default) [], some 52, none⟩,
   ⟨.lits true 3 1 (J5 default) [(0, (.t 52))], some 53, none⟩,
   ⟨.callo J5z [true, false, true] [(.t 50), (.t 51), (.t 53)] 0, some 54, none⟩,
   ⟨.faddr 2 (.t 3), some 55, none⟩,
   ⟨.store 1 (.t 55) (.t 54), none, none⟩])
 (.skip))))
 (.keep [1, 2, 3, 6, 8, 10] Jl6)))))))))))
def Jh6 : AFn := ⟨3, 66, Jd1, [.cell 6 true 3, .tmp 7], false⟩
def JF : Jg := .seq (.seq (.reg false [] [⟨.mv (.t 3), some 25, none⟩,
  ⟨.faddr 2 (.t 1), some 26, none⟩,
  ⟨.load false 1 (.t 26), some 27, none⟩,
  ⟨.len false (.t 27), some 28, none⟩,
  ⟨.bin .lss .plain (.t 25) (.t 28), some 29, none⟩])
 (.keep [1, 3, 29] (.cond (.t 29)
 (.skip)
 (.exit 0))))
 (.seq (.block 1 (.seq (.reg false [] [⟨.faddr 2 (.t 1), some 32, none⟩,
  ⟨.load false 1 (.t 32), some 33, none⟩,
  ⟨.mv (.t 3), some 34, none⟩,
  ⟨.iaddr 3 (.t 33) (.t 34), some 35, none⟩,
  ⟨.load true 3 (.t 35), some 36, none⟩,
  ⟨.newbox (J5 default), some 4, none⟩,
  ⟨.store 3 (.t 4) (.t 36), none, none⟩])
 (.keep [1, 3, 4] (.seq (.seq (.reg true [] [⟨.faddr 0 (.t 4), some 37, none⟩,
  ⟨.load false 1 (.t 37), some 38, none⟩,
  ⟨.bin .lss .plain (.t 38) (.c (.p (.i .i64 0))), some 39, none⟩,
  ⟨.mv (.t 39), some 40, none⟩,
  ⟨.faddr 0 (.t 4), some 41, some (40, false)⟩,
  ⟨.load false 1 (.t 41), some 42, some (40, false)⟩,
  ⟨.faddr 1 (.t 1), some 43, some (40, false)⟩,
  ⟨.load false 1 (.t 43), some 44, some (40, false)⟩,
  ⟨.bin .geq .plain (.t 42) (.t 44), some 45, some (40, false)⟩,
  ⟨.pick (.t 40) (.c (.p (.b true))) (.t 45), some 46, none⟩,
  ⟨.mv (.t 46), some 47, none⟩,
  ⟨.mv (.t 3), some 48, some (47, false)⟩,
  ⟨.bin .gtr .plain (.t 48) (.c (.p (.i .i64 0))), some 49, some (47, false)⟩,
  ⟨.mv (.t 49), some 50, some (47, false)⟩,
  ⟨.faddr 2 (.t 1), some 51, some (50, true)⟩,
  ⟨.load false 1 (.t 51), some 52, some (50, true)⟩,
  ⟨.mv (.t 3), some 53, some (50, true)⟩,
  ⟨.bin .sub .plain (.t 53) (.c (.p (.i .i64 1))), some 54, some (50, true)⟩,
  ⟨.iaddr 3 (.t 52) (.t 54), some 55, some (50, true)⟩,
  ⟨.faddr 0 (.t 55), some 56, some (50, true)⟩,
  ⟨.load false 1 (.t 56), some 57, some (50, true)⟩,
  ⟨.faddr 0 (.t 4), some 58, some (50, true)⟩,
  ⟨.load false 1 (.t 58), some 59, some (50, true)⟩,
  ⟨.bin .geq .plain (.t 57) (.t 59), some 60, some (50, true)⟩,
  ⟨.pick (.t 50) (.t 60) (.c (.p (.b false))), some 61, some (47, false)⟩,
  ⟨.pick (.t 47) (.c (.p (.b true))) (.t 61), some 62, none⟩])
 (.keep [1, 3, 4, 62] (.cond (.t 62)
 (.seq (.reg false [] [⟨.mv (.c (.p (.b false))), some 2, none⟩])
  (.ret))
 (.skip))))
 (.seq (.reg false [] [⟨.faddr 2 (.t 4), some 64, none⟩,
  ⟨.load false 1 (.t 64), some 65, none⟩,
  ⟨.faddr 0 (.t 4), some 66, none⟩,
  ⟨.load false 1 (.t 66), some 67, none⟩,
  ⟨.call J2B [(.t 65), (.t 67)] 0, some 68, none⟩,
  ⟨.mv (.t 68), some 63, none⟩,
  ⟨.extr (.t 63) 0, some 69, none⟩,
  ⟨.extr (.t 63) 1, some 70, none⟩,
  ⟨.newbox (J3 default), some 5, none⟩,
  ⟨.store 34 (.t 5) (.t 69), none, none⟩,
  ⟨.mv (.t 70), some 6, none⟩])
 (.keep [1, 3, 4, 5, 6] (.seq (.reg false [] [⟨.mv (.t 6), some 71, none⟩,
  ⟨.bin .neq .plain (.t 71) (.c (.p (.i .i64 0))), some 72, none⟩,
  ⟨.mv (.t 72), some 73, none⟩,
  ⟨.faddr 1 (.t 5), some 74, some (73, false)⟩,
  ⟨.load false 1 (.t 74), some 75, some (73, false)⟩,
  ⟨.faddr 1 (.t 4), some 76, some (73, false)⟩,
  ⟨.load false 1 (.t 76), some 77, some (73, false)⟩,
  ⟨.bin .neq .plain (.t 75) (.t 77), some 78, some (73, false)⟩,
  ⟨.pick (.t 73) (.c (.p (.b true))) (.t 78), some 79, none⟩])
 (.keep [1, 3, 79] (.cond (.t 79)
 (.seq (.reg false [] [⟨.mv (.c (.p (.b false))), some 2, none⟩])
  (.ret))
 (.skip))))))))))
 (.reg false [] [⟨.mv (.t 3), some 30, none⟩,
  ⟨.bin .add .plain (.t 30) (.c (.p (.i .i64 1))), some 31, none⟩,
  ⟨.mv (.t 31), some 3, none⟩]))
def J42 : Jg := .seq (.reg false [] [⟨.mv (.c (.p (.b true))), some 2, none⟩])
 (.ret)
def J1J : Jg := .seq (.reg false [] [⟨.box 3 (.t 0), some 1, none⟩,
  ⟨.mv (.c (.p (.b false))), some 2, none⟩])
 (.seq (.seq (.reg false [] [⟨.faddr 0 (.t 1), some 7, none⟩,
  ⟨.load false 1 (.t 7), some 8, none⟩,
  ⟨.bin .lss .plain (.t 8) (.c (.p (.i .i64 1))), some 9, none⟩,
  ⟨.mv (.t 9), some 10, none⟩,
  ⟨.faddr 0 (.t 1), some 11, some (10, false)⟩,
  ⟨.load false 1 (.t 11), some 12, some (10, false)⟩,
  ⟨.bin .gtr .plain (.t 12) (.c (.p (.i .i64 1073741824))), some 13, some (10, false)⟩,
  ⟨.pick (.t 10) (.c (.p (.b true))) (.t 13), some 14, none⟩,
  ⟨.mv (.t 14), some 15, none⟩,
  ⟨.faddr 1 (.t 1), some 16, some (15, false)⟩,
  ⟨.load false 1 (.t 16), some 17, some (15, false)⟩,
  ⟨.bin .lss .plain (.t 17) (.c (.p (.i .i64 1))), some 18, some (15, false)⟩,
  ⟨.pick (.t 15) (.c (.p (.b true))) (.t 18), some 19, none⟩,
  ⟨.mv (.t 19), some 20, none⟩,
  ⟨.faddr 1 (.t 1), some 21, some (20, false)⟩,
  ⟨.load false 1 (.t 21), some 22, some (20, false)⟩,
  ⟨.bin .gtr .plain (.t 22) (.c (.p (.i .i64 64))), some 23, some (20, false)⟩,
  ⟨.pick (.t 20) (.c (.p (.b true))) (.t 23), some 24, none⟩])
 (.keep [1, 24] (.cond (.t 24)
 (.seq (.reg false [] [⟨.mv (.c (.p (.b false))), some 2, none⟩])
  (.ret))
 (.skip))))
 (.seq (.tidy [2] (.seq (.reg false [] [⟨.mv (.c (.p (.i .i64 0))), some 3, none⟩])
 (.block 0 (.loop [1, 3] JF))))
 (.keep [] J42)))
def J29 : AFn := ⟨1, 80, J1J, [.tmp 2], false⟩
def J7N : Jg := .seq (.reg false [] [⟨.faddr 2 (.t 3), some 72, none⟩,
  ⟨.load false 1 (.t 72), some 73, none⟩,
  ⟨.mv (.t 13), some 74, none⟩,
  ⟨.iaddr 3 (.t 73) (.t 74), some 75, none⟩,
  ⟨.faddr 0 (.t 75), some 76, none⟩,
  ⟨.load false 1 (.t 76), some 77, none⟩,
  ⟨.mv (.t 1), some 78, none⟩,
  ⟨.bin .neq .plain (.t 77) (.t 78), some 79, none⟩])
 (.keep [1, 3, 6, 10, 11, 12, 13, 79] (.cond (.t 79)
 (.reg true [(1, 7)] [⟨.faddr 2 (.t 11), some 80, none⟩,
   ⟨.load false 1 (.t 80), some 81, none⟩,
   ⟨.faddr 2 (.t 3), some 82, none⟩,
   ⟨.load false 1 (.t 82), some 83, none⟩,
   ⟨.mv (.t 13), some 84, none⟩,
   ⟨.iaddr 3 (.t 83) (.t 84), some 85, none⟩,
   ⟨.load true 3 (.t 85), some 86, none⟩,
   ⟨.lits false 3 1 (J5 default) [(0, (.t 86))], some 87, none⟩,
   ⟨.app 3 32 (J5 default) (.t 81) (.t 87), some 88, none⟩,
   ⟨.faddr 2 (.t 11), some 89, none⟩,
   ⟨.store 1 (.t 89) (.t 88), none, none⟩])
 (.skip)))
def J9d : Jg := .reg false [] [⟨.mv (.t 13), some 52, none⟩,
  ⟨.bin .add .plain (.t 52) (.c (.p (.i .i64 1))), some 53, none⟩,
  ⟨.mv (.t 53), some 13, none⟩]
def J17 : Jg := .seq (.seq (.reg false [] [⟨.mv (.t 13), some 47, none⟩,
  ⟨.faddr 2 (.t 3), some 48, none⟩,
  ⟨.load false 1 (.t 48), some 49, none⟩,
  ⟨.len false (.t 49), some 50, none⟩,
  ⟨.bin .lss .plain (.t 47) (.t 50), some 51, none⟩])
 (.keep [1, 3, 6, 10, 11, 12, 13, 51] (.cond (.t 51)
 (.skip)
 (.exit 0))))
 (.seq (.block 1 (.seq (.seq (.reg false [] [⟨.mv (.t 12), some 54, none⟩,
  ⟨.un .not (.t 54), some 55, none⟩,
  ⟨.mv (.t 55), some 56, none⟩,
  ⟨.faddr 2 (.t 3), some 57, some (56, true)⟩,
  ⟨.load false 1 (.t 57), some 58, some (56, true)⟩,
  ⟨.mv (.t 13), some 59, some (56, true)⟩,
  ⟨.iaddr 3 (.t 58) (.t 59), some 60, some (56, true)⟩,
  ⟨.faddr 0 (.t 60), some 61, some (56, true)⟩,
  ⟨.load false 1 (.t 61), some 62, some (56, true)⟩,
  ⟨.mv (.t 1), some 63, some (56, true)⟩,
  ⟨.bin .geq .plain (.t 62) (.t 63), some 64, some (56, true)⟩,
  ⟨.pick (.t 56) (.t 64) (.c (.p (.b false))), some 65, none⟩])
 (.keep [1, 3, 6, 10, 11, 12, 13, 65] (.cond (.t 65)
 (.reg false [] [⟨.faddr 2 (.t 11), some 66, none⟩,
   ⟨.load false 1 (.t 66), some 67, none⟩,
   ⟨.load true 3 (.t 10), some 68, none⟩,
   ⟨.lits false 3 1 (J5 default) [(0, (.t 68))], some 69, none⟩,
   ⟨.app 3 32 (J5 default) (.t 67) (.t 69), some 70, none⟩,
   ⟨.faddr 2 (.t 11), some 71, none⟩,
   ⟨.store 1 (.t 71) (.t 70), none, none⟩,
   ⟨.mv (.c (.p (.b true))), some 12, none⟩])
 (.skip))))
 (.keep [1, 3, 6, 10, 11, 12, 13] J7N)))
 (.keep [1, 3, 6, 10, 11, 12, 13] J9d))
def Jb3 : Jg := .seq (.reg false [] [⟨.load true 3 (.t 11), some 98, none⟩,
  ⟨.store 3 (.t 6) (.t 98), none, none⟩,
  ⟨.mv (.c (.p (.i .i64 0))), some 7, none⟩])
 (.ret)
def J2J : Jg := .seq (.seq (.reg false [] [⟨.mv (.t 12), some 90, none⟩,
  ⟨.un .not (.t 90), some 91, none⟩])
 (.cond (.t 91)
 (.reg false [] [⟨.faddr 2 (.t 11), some 92, none⟩,
   ⟨.load false 1 (.t 92), some 93, none⟩,
   ⟨.load true 3 (.t 10), some 94, none⟩,
   ⟨.lits false 3 1 (J5 default) [(0, (.t 94))], some 95, none⟩,
   ⟨.app 3 32 (J5 default) (.t 93) (.t 95), some 96, none⟩,
   ⟨.faddr 2 (.t 11), some 97, none⟩,
   ⟨.store 1 (.t 97) (.t 96), none, none⟩])
 (.skip)))
 (.keep [6, 11] Jb3)
def J2h : Jg := .seq (.reg false [] [⟨.box 3 (.t 0), some 3, none⟩,
  ⟨.newboxo (J7 default) [(2, 3)], some 6, none⟩,
  ⟨.mv (.c (.p (.i .i64 0))), some 7, none⟩])
 (.keep [1, 2, 3, 6] (.seq (.seq (.reg false [] [⟨.load true 3 (.t 3), some 14, none⟩,
  ⟨.call J5g [(.t 14)] 0, some 15, none⟩,
  ⟨.un .not (.t 15), some 16, none⟩])
 (.keep [1, 2, 3, 6, 16] (.cond (.t 16)
 (.seq (.reg false [] [⟨.buildo (J7 default) [] [(2, 3)], some 17, none⟩,
   ⟨.store 3 (.t 6) (.t 17), none, none⟩,
   ⟨.mv (.c (.p (.i .i64 43))), some 7, none⟩])
  (.ret))
 (.skip))))
 (.seq (.seq (.reg false [] [⟨.mv (.t 1), some 18, none⟩,
  ⟨.bin .lss .plain (.t 18) (.c (.p (.i .i64 0))), some 19, none⟩,
  ⟨.mv (.t 19), some 20, none⟩,
  ⟨.mv (.t 1), some 21, some (20, false)⟩,
  ⟨.faddr 1 (.t 3), some 22, some (20, false)⟩,
  ⟨.load false 1 (.t 22), some 23, some (20, false)⟩,
  ⟨.bin .geq .plain (.t 21) (.t 23), some 24, some (20, false)⟩,
  ⟨.pick (.t 20) (.c (.p (.b true))) (.t 24), some 25, none⟩])
 (.keep [1, 2, 3, 6, 25] (.cond (.t 25)
 (.seq (.reg false [] [⟨.buildo (J7 default) [] [(2, 3)], some 26, none⟩,
   ⟨.store 3 (.t 6) (.t 26), none, none⟩,
   ⟨.mv (.c (.p (.i .i64 1))), some 7, none⟩])
  (.ret))
 (.skip))))
 (.seq (.reg false [] [⟨.mv (.t 2), some 28, none⟩,
  ⟨.mv (.t 1), some 29, none⟩,
  ⟨.call J2B [(.t 28), (.t 29)] 0, some 30, none⟩,
  ⟨.mv (.t 30), some 27, none⟩,
  ⟨.extr (.t 27) 0, some 31, none⟩,
  ⟨.extr (.t 27) 1, some 32, none⟩,
  ⟨.newbox (J3 default), some 8, none⟩,
  ⟨.store 34 (.t 8) (.t 31), none, none⟩,
  ⟨.mv (.t 32), some 9, none⟩])
 (.keep [1, 2, 3, 6, 8, 9] (.seq (.seq (.reg false [] [⟨.mv (.t 9), some 33, none⟩,
  ⟨.bin .neq .plain (.t 33) (.c (.p (.i .i64 0))), some 34, none⟩])
 (.cond (.t 34)
 (.seq (.reg false [] [⟨.buildo (J7 default) [] [(2, 3)], some 35, none⟩,
   ⟨.mv (.t 9), some 36, none⟩,
   ⟨.store 3 (.t 6) (.t 35), none, none⟩,
   ⟨.mv (.t 36), some 7, none⟩])
  (.ret))
 (.skip)))
 (.seq (.reg false [] [⟨.mv (.t 1), some 37, none⟩,
  ⟨.faddr 1 (.t 8), some 38, none⟩,
  ⟨.load false 1 (.t 38), some 39, none⟩,
  ⟨.mv (.t 2), some 40, none⟩,
  ⟨.build (J5 default) [(0, 1, (.t 37)), (1, 1, (.t 39)), (2, 1, (.t 40))], some 41, none⟩,
  ⟨.newbox (J5 default), some 10, none⟩,
  ⟨.store 3 (.t 10) (.t 41), none, none⟩])
 (.keep [1, 3, 6, 10] (.seq (.reg false [] [⟨.faddr 0 (.t 3), some 42, none⟩,
  ⟨.load false 1 (.t 42), some 43, none⟩,
  ⟨.faddr 1 (.t 3), some 44, none⟩,
  ⟨.load false 1 (.t 44), some 45, none⟩,
  ⟨.buildo (J7 default) [(0, 1, (.t 43)), (1, 1, (.t 45))] [(2, 3)], some 46, none⟩,
  ⟨.newboxo (J7 default) [(2, 3)], some 11, none⟩,
  ⟨.store 3 (.t 11) (.t 46), none, none⟩])
 (.keep [1, 3, 6, 10, 11] (.seq (.reg false [] [⟨.mv (.c (.p (.b false))), some 12, none⟩])
 (.seq (.seq (.reg false [] [⟨.mv (.c (.p (.i .i64 0))), some 13, none⟩])
 (.block 0 (.loop [1, 3, 6, 10, 11, 12, 13] J17)))
 (.keep [6, 10, 11, 12] J2J)))))))))))))
def J1T : AFn := ⟨3, 99, J2h, [.cell 6 true 3, .tmp 7], false⟩
def J3l : Jg := .seq (.reg false [] [⟨.mv (.c (.p (.b false))), some 0, none⟩])
 (.seq (.reg false [] [⟨.build (J7 default) [(0, 1, (.c (.p (.i .i64 1)))), (1, 1, (.c (.p (.i .i64 1))))], some 4, none⟩,
  ⟨.call J0k [(.t 4)] 0, some 5, none⟩,
  ⟨.mv (.t 5), some 3, none⟩,
  ⟨.extr (.t 3) 0, some 6, none⟩,
  ⟨.extr (.t 3) 1, some 7, none⟩,
  ⟨.mv (.t 6), some 1, none⟩,
  ⟨.mv (.t 7), some 2, none⟩])
 (.keep [1, 2] (.seq (.reg false [] [⟨.mv (.t 2), some 8, none⟩,
  ⟨.bin .eql .plain (.t 8) (.c (.p (.i .i64 0))), some 9, none⟩,
  ⟨.mv (.t 9), some 10, none⟩,
  ⟨.mv (.t 1), some 11, some (10, true)⟩,
  ⟨.len true (.t 11), some 12, some (10, true)⟩,
  ⟨.bin .eql .plain (.t 12) (.c (.p (.i .i64 20))), some 13, some (10, true)⟩,
  ⟨.pick (.t 10) (.t 13) (.c (.p (.b false))), some 14, none⟩,
  ⟨.mv (.t 14), some 15, none⟩,
  ⟨.build (J7 default) [(0, 1, (.c (.p (.i .i64 1)))), (1, 1, (.c (.p (.i .i64 1))))], some 16, some (15, true)⟩,
  ⟨.call J4q [(.t 16)] 0, some 17, some (15, true)⟩,
  ⟨.pick (.t 15) (.t 17) (.c (.p (.b false))), some 18, none⟩,
  ⟨.mv (.t 18), some 0, none⟩])
 (.ret))))
def J6w : AFn := ⟨0, 19, J3l, [.tmp 0], false⟩
def JaJ : Jg := .reg false [] [⟨.mv (.t 4), some 18, none⟩,
  ⟨.bin .add .plain (.t 18) (.c (.p (.i .i64 1))), some 19, none⟩,
  ⟨.mv (.t 19), some 4, none⟩]
def J11 : Jg := .seq (.seq (.reg false [] [⟨.mv (.t 4), some 14, none⟩,
  ⟨.faddr 1 (.t 3), some 15, none⟩,
  ⟨.load false 1 (.t 15), some 16, none⟩,
  ⟨.bin .lss .plain (.t 14) (.t 16), some 17, none⟩])
 (.keep [0, 2, 3, 4, 17] (.cond (.t 17)
 (.skip)
 (.exit 0))))
 (.seq (.tidy [0, 2, 3, 4] (.block 1 (.seq (.seq (.reg false [] [⟨.mv (.t 0), some 20, none⟩,
  ⟨.call Ji [(.t 20), (.c (.p (.i .i64 4)))] 0, some 21, none⟩,
  ⟨.bin .eql .plain (.t 21) (.c (.p (.i .i64 0))), some 22, none⟩])
 (.keep [0, 2, 3, 4, 22] (.cond (.t 22)
 (.exit 1)
 (.skip))))
 (.seq (.reg true [(0, 4), (0, 9), (4, 9), (5, 9)] [⟨.load true 3 (.t 3), some 24, none⟩,
  ⟨.mv (.t 4), some 25, none⟩,
  ⟨.mv (.t 0), some 26, none⟩,
  ⟨.mv (.t 4), some 27, none⟩,
  ⟨.call J5T [(.t 26), (.t 27)] 0, some 28, none⟩,
  ⟨.call J6U [(.t 24), (.t 25), (.t 28)] 0, some 29, none⟩,
  ⟨.mv (.t 29), some 23, none⟩,
  ⟨.extr (.t 23) 0, some 30, none⟩,
  ⟨.extr (.t 23) 1, some 31, none⟩,
  ⟨.newbox (J7 default), some 5, none⟩,
  ⟨.store 3 (.t 5) (.t 30), none, none⟩,
  ⟨.mv (.t 31), some 6, none⟩])
 (.keep [0, 2, 3, 4, 5, 6] (.seq (.reg false [] [⟨.mv (.t 6), some 32, none⟩,
  ⟨.bin .eql .plain (.t 32) (.c (.p (.i .i64 0))), some 33, none⟩])
 (.cond (.t 33)
 (.reg false [] [⟨.load true 3 (.t 5), some 34, none⟩,
   ⟨.store 3 (.t 3) (.t 34), none, none⟩])
 (.skip))))))))
 (.keep [0, 2, 3, 4] JaJ))
def J3B : Jg := .seq (.reg false [] [⟨.load true 3 (.t 3), some 35, none⟩,
  ⟨.store 3 (.t 2) (.t 35), none, none⟩])
 (.ret)
def J8p : Jg := .seq (.reg false [] [⟨.newbox (J7 default), some 2, none⟩])
 (.seq (.reg false [] [⟨.mv (.t 0), some 7, none⟩,
  ⟨.call Ji [(.t 7), (.c (.p (.i .i64 5)))] 0, some 8, none⟩,
  ⟨.bin .add .plain (.c (.p (.i .i64 1))) (.t 8), some 9, none⟩,
  ⟨.mv (.t 0), some 10, none⟩,
  ⟨.call Ji [(.t 10), (.c (.p (.i .i64 6)))] 0, some 11, none⟩,
  ⟨.bin .add .plain (.c (.p (.i .i64 1))) (.t 11), some 12, none⟩,
  ⟨.build (J7 default) [(0, 1, (.t 9)), (1, 1, (.t 12))], some 13, none⟩,
  ⟨.newbox (J7 default), some 3, none⟩,
  ⟨.store 3 (.t 3) (.t 13), none, none⟩])
 (.keep [0, 2, 3] (.seq (.tidy [2, 3] (.seq (.reg false [] [⟨.mv (.c (.p (.i .i64 0))), some 4, none⟩])
 (.block 0 (.loop [0, 2, 3, 4] J11))))
 (.keep [2, 3] J3B))))
def J28 : AFn := ⟨1, 36, J8p, [.cell 2 true 3], false⟩
def JhN : Jg := .seq (.seq (.reg false [] [⟨.mv (.t 9), some 45, none⟩,
  ⟨.mv (.t 8), some 46, none⟩,
  ⟨.bin .lss .plain (.t 45) (.t 46), some 47, none⟩])
 (.keep [0, 2, 5, 7, 8, 9, 47] (.cond (.t 47)
 (.skip)
 (.exit 0))))
 (.seq (.block 1 (.seq (.reg false [] [⟨.mv (.t 0), some 51, none⟩,
  ⟨.mv (.t 5), some 52, none⟩,
  ⟨.call J8c [(.t 51), (.t 52)] 0, some 53, none⟩,
  ⟨.mv (.t 53), some 50, none⟩,
  ⟨.extr (.t 50) 0, some 54, none⟩,
  ⟨.extr (.t 50) 1, some 55, none⟩,
  ⟨.extr (.t 50) 2, some 56, none⟩,
  ⟨.mv (.t 54), some 10, none⟩,
  ⟨.mv (.t 55), some 11, none⟩,
  ⟨.mv (.t 56), some 12, none⟩])
 (.keep [0, 2, 7, 8, 9, 10, 11, 12] (.seq (.seq (.reg false [] [⟨.mv (.t 12), some 57, none⟩,
  ⟨.bin .neq .plain (.t 57) (.c (.p (.i .i64 0))), some 58, none⟩])
 (.cond (.t 58)
 (.seq (.reg false [] [⟨.buildo (J7 default) [] [(2, 3)], some 59, none⟩,
   ⟨.mv (.t 12), some 60, none⟩,
   ⟨.store 3 (.t 2) (.t 59), none, none⟩,
   ⟨.mv (.t 60), some 3, none⟩])
  (.ret))
 (.skip)))
 (.seq (.seq (.reg false [] [⟨.mv (.t 10), some 61, none⟩,
  ⟨.len true (.t 61), some 62, none⟩,
  ⟨.bin .neq .plain (.t 62) (.c (.p (.i .i64 258))), some 63, none⟩])
 (.keep [0, 2, 7, 8, 9, 10, 11, 63] (.cond (.t 63)
 (.seq (.reg false [] [⟨.buildo (J7 default) [] [(2, 3)], some 64, none⟩,
   ⟨.store 3 (.t 2) (.t 64), none, none⟩,
   ⟨.mv (.c (.p (.i .i64 4))), some 3, none⟩])
  (.ret))
 (.skip))))
 (.seq (.reg true [(1, 5)] [⟨.mv (.t 10), some 65, none⟩,
  ⟨.call J5M [(.t 65), (.c (.p (.i .i64 0))), (.c (.p (.i .i64 2)))] 0, some 66, none⟩,
  ⟨.mv (.t 10), some 67, none⟩,
  ⟨.slice .str (.t 67) (some (.c (.p (.i .i64 2)))) none none, some 68, none⟩,
  ⟨.build (J5 default) [(0, 1, (.t 66)), (2, 1, (.t 68))], some 69, none⟩,
  ⟨.newbox (J5 default), some 13, none⟩,
  ⟨.store 3 (.t 13) (.t 69), none, none⟩])
 (.keep [0, 2, 7, 8, 9, 11, 13] (.seq (.reg false [] [⟨.faddr 2 (.t 13), some 71, none⟩,
  ⟨.load false 1 (.t 71), some 72, none⟩,
  ⟨.faddr 0 (.t 13), some 73, none⟩,
  ⟨.load false 1 (.t 73), some 74, none⟩,
  ⟨.call J2B [(.t 72), (.t 74)] 0, some 75, none⟩,
  ⟨.mv (.t 75), some 70, none⟩,
  ⟨.extr (.t 70) 0, some 76, none⟩,
  ⟨.extr (.t 70) 1, some 77, none⟩,
  ⟨.newbox (J3 default), some 14, none⟩,
  ⟨.store 34 (.t 14) (.t 76), none, none⟩,
  ⟨.mv (.t 77), some 15, none⟩])
 (.keep [0, 2, 7, 8, 9, 11, 13, 14] (.seq (.reg false [] [⟨.faddr 1 (.t 14), some 78, none⟩,
  ⟨.load false 1 (.t 78), some 79, none⟩,
  ⟨.faddr 1 (.t 13), some 80, none⟩,
  ⟨.store 1 (.t 80) (.t 79), none, none⟩])
 (.keep [0, 2, 7, 8, 9, 11, 13] (.reg false [] [⟨.faddr 2 (.t 7), some 81, none⟩,
  ⟨.load false 1 (.t 81), some 82, none⟩,
  ⟨.load true 3 (.t 13), some 83, none⟩,
  ⟨.lits false 3 1 (J5 default) [(0, (.t 83))], some 84, none⟩,
  ⟨.app 3 32 (J5 default) (.t 82) (.t 84), some 85, none⟩,
  ⟨.mv (.t 11), some 86, none⟩,
  ⟨.faddr 2 (.t 7), some 87, none⟩,
  ⟨.store 1 (.t 87) (.t 85), none, none⟩,
  ⟨.mv (.t 86), some 5, none⟩]))))))))))))
 (.reg false [] [⟨.mv (.t 9), some 48, none⟩,
  ⟨.bin .add .plain (.t 48) (.c (.p (.i .i64 1))), some 49, none⟩,
  ⟨.mv (.t 49), some 9, none⟩]))
def JhI : Jg := .seq (.seq (.reg false [] [⟨.mv (.t 5), some 88, none⟩,
  ⟨.mv (.t 0), some 89, none⟩,
  ⟨.len true (.t 89), some 90, none⟩,
  ⟨.bin .neq .plain (.t 88) (.t 90), some 91, none⟩])
 (.keep [2, 7, 91] (.cond (.t 91)
 (.seq (.reg false [] [⟨.buildo (J7 default) [] [(2, 3)], some 92, none⟩,
   ⟨.store 3 (.t 2) (.t 92), none, none⟩,
   ⟨.mv (.c (.p (.i .i64 4))), some 3, none⟩])
  (.ret))
 (.skip))))
 (.seq (.seq (.reg false [] [⟨.load true 3 (.t 7), some 93, none⟩,
  ⟨.call J5g [(.t 93)] 0, some 94, none⟩,
  ⟨.un .not (.t 94), some 95, none⟩])
 (.keep [2, 7, 95] (.cond (.t 95)
 (.seq (.reg false [] [⟨.buildo (J7 default) [] [(2, 3)], some 96, none⟩,
   ⟨.store 3 (.t 2) (.t 96), none, none⟩,
   ⟨.mv (.c (.p (.i .i64 43))), some 3, none⟩])
  (.ret))
 (.skip))))
 (.seq (.reg false [] [⟨.load true 3 (.t 7), some 97, none⟩,
  ⟨.store 3 (.t 2) (.t 97), none, none⟩,
  ⟨.mv (.c (.p (.i .i64 0))), some 3, none⟩])
 (.ret)))
def Jay : Jg := .seq (.reg false [] [⟨.newboxo (J7 default) [(2, 3)], some 2, none⟩,
  ⟨.mv (.c (.p (.i .i64 0))), some 3, none⟩])
 (.seq (.reg false [] [⟨.mv (.t 0), some 17, none⟩,
  ⟨.call J8c [(.t 17), (.c (.p (.i .i64 0)))] 0, some 18, none⟩,
  ⟨.mv (.t 18), some 16, none⟩,
  ⟨.extr (.t 16) 0, some 19, none⟩,
  ⟨.extr (.t 16) 1, some 20, none⟩,
  ⟨.extr (.t 16) 2, some 21, none⟩,
  ⟨.mv (.t 19), some 4, none⟩,
  ⟨.mv (.t 20), some 5, none⟩,
  ⟨.mv (.t 21), some 6, none⟩])
 (.keep [0, 2, 4, 5, 6] (.seq (.seq (.reg false [] [⟨.mv (.t 6), some 22, none⟩,
  ⟨.bin .neq .plain (.t 22) (.c (.p (.i .i64 0))), some 23, none⟩])
 (.cond (.t 23)
 (.seq (.reg false [] [⟨.buildo (J7 default) [] [(2, 3)], some 24, none⟩,
   ⟨.mv (.t 6), some 25, none⟩,
   ⟨.store 3 (.t 2) (.t 24), none, none⟩,
   ⟨.mv (.t 25), some 3, none⟩])
  (.ret))
 (.skip)))
 (.seq (.seq (.reg false [] [⟨.mv (.t 4), some 26, none⟩,
  ⟨.len true (.t 26), some 27, none⟩,
  ⟨.bin .neq .plain (.t 27) (.c (.p (.i .i64 12))), some 28, none⟩,
  ⟨.mv (.t 28), some 29, none⟩,
  ⟨.mv (.t 4), some 30, some (29, false)⟩,
  ⟨.slice .str (.t 30) none (some (.c (.p (.i .i64 4)))) none, some 31, some (29, false)⟩,
  ⟨.bin .neq .plain (.t 31) (.c (.p (.s [80, 77, 73, 77]))), some 32, some (29, false)⟩,
  ⟨.pick (.t 29) (.c (.p (.b true))) (.t 32), some 33, none⟩])
 (.keep [0, 2, 4, 5, 33] (.cond (.t 33)
 (.seq (.reg false [] [⟨.buildo (J7 default) [] [(2, 3)], some 34, none⟩,
   ⟨.store 3 (.t 2) (.t 34), none, none⟩,
   ⟨.mv (.c (.p (.i .i64 4))), some 3, none⟩])
  (.ret))
 (.skip))))
 (.seq (.reg false [] [⟨.mv (.t 4), some 35, none⟩,
  ⟨.call J5M [(.t 35), (.c (.p (.i .i64 4))), (.c (.p (.i .i64 4)))] 0, some 36, none⟩,
  ⟨.mv (.t 4), some 37, none⟩,
  ⟨.call J5M [(.t 37), (.c (.p (.i .i64 8))), (.c (.p (.i .i64 2)))] 0, some 38, none⟩,
  ⟨.buildo (J7 default) [(0, 1, (.t 36)), (1, 1, (.t 38))] [(2, 3)], some 39, none⟩,
  ⟨.newboxo (J7 default) [(2, 3)], some 7, none⟩,
  ⟨.store 3 (.t 7) (.t 39), none, none⟩])
 (.keep [0, 2, 4, 5, 7] (.seq (.reg false [] [⟨.mv (.t 4), some 40, none⟩,
  ⟨.call J5M [(.t 40), (.c (.p (.i .i64 10))), (.c (.p (.i .i64 2)))] 0, some 41, none⟩,
  ⟨.mv (.t 41), some 8, none⟩])
 (.keep [0, 2, 5, 7, 8] (.seq (.seq (.reg false [] [⟨.mv (.t 8), some 42, none⟩,
  ⟨.bin .gtr .plain (.t 42) (.c (.p (.i .i64 64))), some 43, none⟩])
 (.cond (.t 43)
 (.seq (.reg false [] [⟨.buildo (J7 default) [] [(2, 3)], some 44, none⟩,
   ⟨.store 3 (.t 2) (.t 44), none, none⟩,
   ⟨.mv (.c (.p (.i .i64 4))), some 3, none⟩])
  (.ret))
 (.skip)))
 (.seq (.tidy [0, 2, 3, 5, 7] (.seq (.reg false [] [⟨.mv (.c (.p (.i .i64 0))), some 9, none⟩])
 (.block 0 (.loop [0, 2, 5, 7, 8, 9] JhN))))
 (.keep [0, 2, 5, 7] JhI)))))))))))
def Jdu : AFn := ⟨1, 98, Jay, [.cell 2 true 3, .tmp 3], false⟩
def JN : Jg := .seq (.reg false [] [⟨.mv (.c (.p (.b false))), some 6, none⟩])
 (.seq (.seq (.reg false [] [⟨.call J6a [] 0, some 17, none⟩,
  ⟨.un .not (.t 17), some 18, none⟩])
 (.cond (.t 18)
 (.seq (.reg false [] [⟨.mv (.c (.p (.b false))), some 6, none⟩])
  (.ret))
 (.skip)))
 (.seq (.reg false [] [⟨.mv (.t 0), some 19, none⟩,
  ⟨.call J8F [(.t 19), (.c (.p (.i .i64 400)))] 1, some 20, none⟩,
  ⟨.call J7i [(.t 20)] 0, some 21, none⟩,
  ⟨.newbox (J7 default), some 7, none⟩,
  ⟨.store 3 (.t 7) (.t 21), none, none⟩])
 (.keep [1, 2, 7] (.seq (.reg false [] [⟨.load true 3 (.t 7), some 23, none⟩,
  ⟨.call J0k [(.t 23)] 0, some 24, none⟩,
  ⟨.mv (.t 24), some 22, none⟩,
  ⟨.extr (.t 22) 0, some 25, none⟩,
  ⟨.extr (.t 22) 1, some 26, none⟩,
  ⟨.mv (.t 25), some 8, none⟩,
  ⟨.mv (.t 26), some 9, none⟩])
 (.keep [1, 2, 7, 8, 9] (.seq (.reg false [] [⟨.mv (.t 8), some 28, none⟩,
  ⟨.call J3G [(.t 28)] 0, some 29, none⟩,
  ⟨.mv (.t 29), some 27, none⟩,
  ⟨.extr (.t 27) 0, some 30, none⟩,
  ⟨.extr (.t 27) 1, some 31, none⟩,
  ⟨.newbox (J7 default), some 10, none⟩,
  ⟨.store 3 (.t 10) (.t 30), none, none⟩,
  ⟨.mv (.t 31), some 11, none⟩])
 (.keep [1, 2, 7, 8, 9, 10, 11] (.seq (.reg false [] [⟨.load true 3 (.t 10), some 33, none⟩,
  ⟨.call J0k [(.t 33)] 0, some 34, none⟩,
  ⟨.mv (.t 34), some 32, none⟩,
  ⟨.extr (.t 32) 0, some 35, none⟩,
  ⟨.extr (.t 32) 1, some 36, none⟩,
  ⟨.mv (.t 35), some 12, none⟩,
  ⟨.mv (.t 36), some 13, none⟩])
 (.keep [1, 2, 7, 8, 9, 10, 11, 12, 13] (.seq (.seq (.reg false [] [⟨.mv (.t 9), some 37, none⟩,
  ⟨.bin .neq .plain (.t 37) (.c (.p (.i .i64 0))), some 38, none⟩,
  ⟨.mv (.t 38), some 39, none⟩,
  ⟨.mv (.t 11), some 40, some (39, false)⟩,
  ⟨.bin .neq .plain (.t 40) (.c (.p (.i .i64 0))), some 41, some (39, false)⟩,
  ⟨.pick (.t 39) (.c (.p (.b true))) (.t 41), some 42, none⟩,
  ⟨.mv (.t 42), some 43, none⟩,
  ⟨.mv (.t 13), some 44, some (43, false)⟩,
  ⟨.bin .neq .plain (.t 44) (.c (.p (.i .i64 0))), some 45, some (43, false)⟩,
  ⟨.pick (.t 43) (.c (.p (.b true))) (.t 45), some 46, none⟩,
  ⟨.mv (.t 46), some 47, none⟩,
  ⟨.mv (.t 12), some 48, some (47, false)⟩,
  ⟨.mv (.t 8), some 49, some (47, false)⟩,
  ⟨.bin .neq .plain (.t 48) (.t 49), some 50, some (47, false)⟩,
  ⟨.pick (.t 47) (.c (.p (.b true))) (.t 50), some 51, none⟩,
  ⟨.mv (.t 51), some 52, none⟩,
  ⟨.load true 3 (.t 7), some 53, some (52, false)⟩,
  ⟨.load true 3 (.t 10), some 54, some (52, false)⟩,
  ⟨.call J5V [(.t 53), (.t 54)] 0, some 55, some (52, false)⟩,
  ⟨.un .not (.t 55), some 56, some (52, false)⟩,
  ⟨.pick (.t 52) (.c (.p (.b true))) (.t 56), some 57, none⟩,
  ⟨.mv (.t 57), some 58, none⟩,
  ⟨.mv (.t 2), some 59, some (58, false)⟩,
  ⟨.bin .eql .plain (.t 59) (.c (.p (.i .u8 0))), some 60, some (58, false)⟩,
  ⟨.pick (.t 58) (.c (.p (.b true))) (.t 60), some 61, none⟩])
 (.keep [1, 2, 7, 8, 9, 10, 11, 12, 13, 61] (.cond (.t 61)
 (.seq (.reg false [] [⟨.mv (.t 9), some 62, none⟩,
   ⟨.bin .eql .plain (.t 62) (.c (.p (.i .i64 0))), some 63, none⟩,
   ⟨.mv (.t 63), some 64, none⟩,
   ⟨.mv (.t 11), some 65, some (64, true)⟩,
   ⟨.bin .eql .plain (.t 65) (.c (.p (.i .i64 0))), some 66, some (64, true)⟩,
   ⟨.pick (.t 64) (.t 66) (.c (.p (.b false))), some 67, none⟩,
   ⟨.mv (.t 67), some 68, none⟩,
   ⟨.mv (.t 13), some 69, some (68, true)⟩,
   ⟨.bin .eql .plain (.t 69) (.c (.p (.i .i64 0))), some 70, some (68, true)⟩,
   ⟨.pick (.t 68) (.t 70) (.c (.p (.b false))), some 71, none⟩,
   ⟨.mv (.t 71), some 72, none⟩,
   ⟨.mv (.t 12), some 73, some (72, true)⟩,
   ⟨.mv (.t 8), some 74, some (72, true)⟩,
   ⟨.bin .eql .plain (.t 73) (.t 74), some 75, some (72, true)⟩,
   ⟨.pick (.t 72) (.t 75) (.c (.p (.b false))), some 76, none⟩,
   ⟨.mv (.t 76), some 77, none⟩,
   ⟨.load true 3 (.t 7), some 78, some (77, true)⟩,
   ⟨.load true 3 (.t 10), some 79, some (77, true)⟩,
   ⟨.call J5V [(.t 78), (.t 79)] 0, some 80, some (77, true)⟩,
   ⟨.pick (.t 77) (.t 80) (.c (.p (.b false))), some 81, none⟩,
   ⟨.mv (.t 81), some 6, none⟩])
  (.ret))
 (.skip))))
 (.seq (.reg false [] [⟨.mv (.t 1), some 82, none⟩,
  ⟨.conv (.int .i64) (.t 82), some 83, none⟩,
  ⟨.mv (.t 8), some 84, none⟩,
  ⟨.len true (.t 84), some 85, none⟩,
  ⟨.bin .rem .plain (.t 83) (.t 85), some 86, none⟩,
  ⟨.mv (.t 86), some 14, none⟩])
 (.keep [2, 8, 14] (.seq (.reg true [(8, 20), (9, 20), (16, 20)] [⟨.mv (.t 8), some 88, none⟩,
  ⟨.mv (.t 14), some 89, none⟩,
  ⟨.slice .str (.t 88) none (some (.t 89)) none, some 90, none⟩,
  ⟨.mv (.t 8), some 91, none⟩,
  ⟨.mv (.t 14), some 92, none⟩,
  ⟨.sidx (.t 91) (.t 92), some 93, none⟩,
  ⟨.mv (.t 2), some 94, none⟩,
  ⟨.bin .xor .plain (.t 93) (.t 94), some 95, none⟩,
  ⟨.lits false 1 1 [(.i .u8 0)] [(0, (.t 95))], some 96, none⟩,
  ⟨.conv .toStr (.t 96), some 97, none⟩,
  ⟨.bin .add .plain (.t 90) (.t 97), some 98, none⟩,
  ⟨.mv (.t 8), some 99, none⟩,
  ⟨.mv (.t 14), some 100, none⟩,
  ⟨.bin .add .plain (.t 100) (.c (.p (.i .i64 1))), some 101, none⟩,
  ⟨.slice .str (.t 99) (some (.t 101)) none none, some 102, none⟩,
  ⟨.bin .add .plain (.t 98) (.t 102), some 103, none⟩,
  ⟨.call J3G [(.t 103)] 0, some 104, none⟩,
  ⟨.mv (.t 104), some 87, none⟩,
  ⟨.extr (.t 87) 0, some 105, none⟩,
  ⟨.extr (.t 87) 1, some 106, none⟩,
  ⟨.newbox (J7 default), some 15, none⟩,
  ⟨.store 3 (.t 15) (.t 105), none, none⟩,
  ⟨.mv (.t 106), some 16, none⟩])
 (.keep [16] (.seq (.reg false [] [⟨.mv (.t 16), some 107, none⟩,
  ⟨.bin .neq .plain (.t 107) (.c (.p (.i .i64 0))), some 108, none⟩,
  ⟨.mv (.t 108), some 6, none⟩])
 (.ret))))))))))))))))
def J4f : AFn := ⟨3, 109, JN, [.tmp 6], false⟩
theorem Jpw : J7s.res = [.tmp 4] ∧ J7s.fresh = false := ⟨rfl, rfl⟩
theorem J6Z : J44.res = [.tmp 4] ∧ J44.fresh = false := ⟨rfl, rfl⟩
theorem Jf9 : J0L.res = [.tmp 2] ∧ J0L.fresh = false := ⟨rfl, rfl⟩
theorem Jgr : J0E.res = [.tmp 2] ∧ J0E.fresh = false := ⟨rfl, rfl⟩
theorem Jda : J3k.res = [.tmp 6] ∧ J3k.fresh = false := ⟨rfl, rfl⟩
theorem J7V : J3e.res = [.tmp 6, .tmp 7] ∧ J3e.fresh = false := ⟨rfl, rfl⟩
theorem Jbp : J48.res = [.cell 2 true 2] ∧ J48.fresh = false := ⟨rfl, rfl⟩
theorem JlT : J6c.res = [.tmp 2] ∧ J6c.fresh = false := ⟨rfl, rfl⟩
theorem Joh : J0X.res = [.tmp 2] ∧ J0X.fresh = false := ⟨rfl, rfl⟩
theorem J9V : J2F.res = [.tmp 2] ∧ J2F.fresh = false := ⟨rfl, rfl⟩
theorem J3y : JC.res = [.tmp 4] ∧ JC.fresh = false := ⟨rfl, rfl⟩
theorem J8g : J53.res = [.tmp 2] ∧ J53.fresh = false := ⟨rfl, rfl⟩
theorem J60 : J0u.res = [.tmp 4] ∧ J0u.fresh = false := ⟨rfl, rfl⟩
theorem J82 : J3i.res = [.tmp 6, .tmp 7] ∧ J3i.fresh = false := ⟨rfl, rfl⟩
theorem JnH : J7S.res = [.cell 2 true 34] ∧ J7S.fresh = false := ⟨rfl, rfl⟩
theorem JfF : J7d.res = [.tmp 2] ∧ J7d.fresh = false := ⟨rfl, rfl⟩
theorem JpP : J8K.res = [.cell 2 true 34] ∧ J8K.fresh = false := ⟨rfl, rfl⟩
theorem Jfq : JR.res = [.cell 0 true 16] ∧ JR.fresh = false := ⟨rfl, rfl⟩
theorem J8U : J47.res = [.tmp 2] ∧ J47.fresh = false := ⟨rfl, rfl⟩
theorem Jlq : J6r.res = [.tmp 6] ∧ J6r.fresh = false := ⟨rfl, rfl⟩
theorem Jh7 : J3g.res = [.cell 2 true 34, .tmp 3] ∧ J3g.fresh = false := ⟨rfl, rfl⟩
theorem Jgt : J0F.res = [.cell 4 true 34] ∧ J0F.fresh = false := ⟨rfl, rfl⟩
theorem Jlu : J68.res = [.tmp 0] ∧ J68.fresh = false := ⟨rfl, rfl⟩
theorem Jnk : J7g.res = [.tmp 0] ∧ J7g.fresh = false := ⟨rfl, rfl⟩
theorem Jcc : J7n.res = [.tmp 4] ∧ J7n.fresh = false := ⟨rfl, rfl⟩
theorem Jf2 : J3b.res = [.tmp 4] ∧ J3b.fresh = false := ⟨rfl, rfl⟩
theorem Jbd : J6o.res = [.tmp 2] ∧ J6o.fresh = false := ⟨rfl, rfl⟩
theorem Jf0 : J2s.res = [] ∧ J2s.fresh = false := ⟨rfl, rfl⟩
theorem Jof : J3j.res = [.tmp 2] ∧ J3j.fresh = false := ⟨rfl, rfl⟩
theorem Jb0 : J2c.res = [.tmp 2] ∧ J2c.fresh = false := ⟨rfl, rfl⟩
theorem Jbf : J2a.res = [.tmp 2, .tmp 3] ∧ J2a.fresh = false := ⟨rfl, rfl⟩
theorem JeQ : J6p.res = [.tmp 2] ∧ J6p.fresh = false := ⟨rfl, rfl⟩
theorem J3S : J58.res = [.tmp 4, .tmp 5, .tmp 6] ∧ J58.fresh = false := ⟨rfl, rfl⟩
theorem Jb8 : J69.res = [.tmp 2] ∧ J69.fresh = false := ⟨rfl, rfl⟩
theorem J4h : J6g.res = [.cell 2 true 34, .tmp 3] ∧ J6g.fresh = false := ⟨rfl, rfl⟩
theorem Jdh : J10.res = [.tmp 2, .tmp 3] ∧ J10.fresh = false := ⟨rfl, rfl⟩
theorem JbP : J7c.res = [.tmp 4] ∧ J7c.fresh = false := ⟨rfl, rfl⟩
theorem J6K : J56.res = [.cell 4 true 34, .tmp 5] ∧ J56.fresh = false := ⟨rfl, rfl⟩
theorem J3E : J1p.res = [.cell 2 true 34, .tmp 3] ∧ J1p.fresh = false := ⟨rfl, rfl⟩
theorem J1L : J27.res = [.tmp 2] ∧ J27.fresh = false := ⟨rfl, rfl⟩
theorem Ji0 : J4N.res = [.cell 2 true 3] ∧ J4N.fresh = false := ⟨rfl, rfl⟩
theorem J4O : J4P.res = [.cell 4 true 34, .tmp 5] ∧ J4P.fresh = false := ⟨rfl, rfl⟩
theorem J2N : J1M.res = [.cell 2 true 3, .tmp 3] ∧ J1M.fresh = false := ⟨rfl, rfl⟩
theorem J1I : J29.res = [.tmp 2] ∧ J29.fresh = false := ⟨rfl, rfl⟩
theorem J95 : J1T.res = [.cell 6 true 3, .tmp 7] ∧ J1T.fresh = false := ⟨rfl, rfl⟩
theorem Jbk : J6w.res = [.tmp 0] ∧ J6w.fresh = false := ⟨rfl, rfl⟩
theorem Jn3 : J28.res = [.cell 2 true 3] ∧ J28.fresh = false := ⟨rfl, rfl⟩
theorem J2l : J4f.res = [.tmp 6] ∧ J4f.fresh = false := ⟨rfl, rfl⟩
def fns : List (FuncId × AFn) := [(J8F, J7s), (Ji, J44), (J3K, J0L), (J45, J0E), (J3O, J3k), (J2H, J3e), (J4d, J48), (J3r, J6c), (J5A, J0X), (J79, J2F), (J0w, JC), (J57, J53), (J0A, J0u), (J3h, J3i), (J7Z, J7S), (J5R, J7d), (J8O, J8K), (J3L, JR), (J9x, JbN), (J46, J47), (J3p, J6r), (J80, J3g), (J4e, J0F), (J5k, J68), (J7k, J7g), (J5V, J7n), (J37, J3b), (J8c, JcX), (J5M, Jdz), (J6m, J6o), (J0Q, J2s), (J3P, J3j), (J1h, J2L), (Jb4, JeH), (J6d, J2c), (J6n, J2a), (J99, J6p), (J3V, J58), (J6f, J69), (J6l, J6g), (J4S, J10), (J5T, J7c), (J34, J56), (J5H, J1p), (J4q, J27), (J3t, J4N), (J2B, J4P), (J3G, J1M), (Jh0, Jh6), (J5g, J29), (J6U, J1T), (J6a, J6w), (J7i, J28), (JdI, Jdu), (J6Y, J4f)]
def Jiw : List (FuncId × Jcd) := [(J3A, J5O)]
def Jjv : List (FuncId × (List AV → List Blk → Option Res)) := [(J1k, Jnw), (J24, JmC), (J5z, (JpZ 3 32))]
def lkF {α : Type} (f : FuncId) : List (FuncId × α) → Option α
 | [] => none
 | (g, a) :: r => if f = g then some a else lkF f r
def J2 (prims : FuncId → Option (List AV → List Blk → Option Res)) : J5f := fun f => Jrq (lkF f fns) (lkF f Jiw) (lkF f Jjv) (prims f)
theorem Jps (p) : J2 p J8F = some (.fn J7s) := rfl
theorem JgL (p) : J2 p Ji = some (.fn J44) := rfl
theorem Jfn (p) : J2 p J3K = some (.fn J0L) := rfl
theorem JgN (p) : J2 p J45 = some (.fn J0E) := rfl
theorem Jom (p) : J2 p J3O = some (.fn J3k) := rfl
theorem JnV (p) : J2 p J2H = some (.fn J3e) := rfl
theorem Jgm (p) : J2 p J4d = some (.fn J48) := rfl
theorem Jlv (p) : J2 p J3r = some (.fn J6c) := rfl
theorem Joe (p) : J2 p J5A = some (.fn J0X) := rfl
theorem Jn6 (p) : J2 p J79 = some (.fn J2F) := rfl
theorem J9E (p) : J2 p J0w = some (.fn JC) := rfl
theorem JiT (p) : J2 p J57 = some (.fn J53) := rfl
theorem J9t (p) : J2 p J0A = some (.fn J0u) := rfl
theorem JnF (p) : J2 p J3h = some (.fn J3i) := rfl
theorem JnT (p) : J2 p J7Z = some (.fn J7S) := rfl
theorem Jnd (p) : J2 p J5R = some (.fn J7d) := rfl
theorem JpK (p) : J2 p J8O = some (.fn J8K) := rfl
theorem JfG (p) : J2 p J3L = some (.fn JR) := rfl
theorem JgF (p) : J2 p J46 = some (.fn J47) := rfl
theorem JlZ (p) : J2 p J3p = some (.fn J6r) := rfl
theorem JnG (p) : J2 p J80 = some (.fn J3g) := rfl
theorem JgK (p) : J2 p J4e = some (.fn J0F) := rfl
theorem JlN (p) : J2 p J5k = some (.fn J68) := rfl
theorem Jnt (p) : J2 p J7k = some (.fn J7g) := rfl
theorem Jne (p) : J2 p J5V = some (.fn J7n) := rfl
theorem Jf1 (p) : J2 p J37 = some (.fn J3b) := rfl
theorem JlI (p) : J2 p J6m = some (.fn J6o) := rfl
theorem JeW (p) : J2 p J0Q = some (.fn J2s) := rfl
theorem Joq (p) : J2 p J3P = some (.fn J3j) := rfl
theorem Jlf (p) : J2 p J6d = some (.fn J2c) := rfl
theorem JlQ (p) : J2 p J6n = some (.fn J2a) := rfl
theorem Jln (p) : J2 p J99 = some (.fn J6p) := rfl
theorem JiA (p) : J2 p J3V = some (.fn J58) := rfl
theorem Jli (p) : J2 p J6f = some (.fn J69) := rfl
theorem JlV (p) : J2 p J6l = some (.fn J6g) := rfl
theorem Jkf (p) : J2 p J4S = some (.fn J10) := rfl
theorem Jmp (p) : J2 p J5T = some (.fn J7c) := rfl
theorem Jjj (p) : J2 p J34 = some (.fn J56) := rfl
theorem Jk9 (p) : J2 p J5H = some (.fn J1p) := rfl
theorem Jld (p) : J2 p J4q = some (.fn J27) := rfl
theorem JhU (p) : J2 p J3t = some (.fn J4N) := rfl
theorem Jif (p) : J2 p J2B = some (.fn J4P) := rfl
theorem Jkj (p) : J2 p J3G = some (.fn J1M) := rfl
theorem JlJ (p) : J2 p J5g = some (.fn J29) := rfl
theorem JnE (p) : J2 p J6U = some (.fn J1T) := rfl
theorem JlG (p) : J2 p J6a = some (.fn J6w) := rfl
theorem JmQ (p) : J2 p J7i = some (.fn J28) := rfl
theorem JgC (p) : J2 p J6Y = some (.fn J4f) := rfl
theorem Jog (p) : J2 p J1k = some (.prim Jnw) := rfl
theorem JhL (p) : J2 p J24 = some (.prim JmC) := rfl
end Go.Am
end
