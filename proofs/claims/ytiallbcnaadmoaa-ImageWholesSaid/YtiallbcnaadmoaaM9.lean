/-
  Parts of a proof.
-/
import Derived.Test.YtiallbcnaadmoaaM6
import Derived.Test.YtiallbcnaadmoaaM7
import Derived.Test.YtiallbcnaadmoaaM8
open Nat (reduceEqDiff reduceAdd reduceLT reduceMul)
set_option linter.unusedSimpArgs false
set_option linter.unusedVariables false
section
namespace Go.Am
set_option maxRecDepth 8000
set_option maxHeartbeats 4000000
set_option linter.unusedSimpArgs false
set_option linter.unusedVariables false
structure T_api_Copy where
 Page : Int
 LSN : Int
 Data : List UInt8
 deriving DecidableEq
instance : Inhabited T_api_Copy := ⟨⟨0, 0, []⟩⟩
def J7 (x : T_api_Copy) : List PV := (cat [.i .i64 x.Page] (cat [.i .i64 x.LSN] [.s x.Data]))
theorem J8i (x : T_api_Copy) : (J7 x).length = 3 := by
 simp only [cat, J7, List.length_append, List.length_cons, List.length_nil]
theorem Je9 (x : T_api_Copy) : sub (J7 x) 0 1 = some [.i .i64 x.Page] := by unfold J7; exact J7q rfl
theorem Jeb (x : T_api_Copy) (y : Int) : spl (J7 x) 0 [.i .i64 y] = some (J7 ⟨y, x.LSN, x.Data⟩) := by unfold J7; exact J7t rfl
theorem JfN (x : T_api_Copy) : sub (J7 x) 1 1 = some [.i .i64 x.LSN] := by
 have e0 : J7 x = cat [.i .i64 x.Page] (cat [.i .i64 x.LSN] [.s x.Data]) := by unfold J7; simp only [cat, List.append_assoc]
 rw [e0]; exact J9h (by simp only [cat, List.length_append, List.length_cons, List.length_nil]) rfl
theorem Jf6 (x : T_api_Copy) (y : Int) : spl (J7 x) 1 [.i .i64 y] = some (J7 ⟨x.Page, y, x.Data⟩) := by
 have e0 : J7 x = cat [.i .i64 x.Page] (cat [.i .i64 x.LSN] [.s x.Data]) := by unfold J7; simp only [cat, List.append_assoc]
 have e1 : J7 ⟨x.Page, y, x.Data⟩ = cat [.i .i64 x.Page] (cat [.i .i64 y] [.s x.Data]) := by unfold J7; simp only [cat, List.append_assoc]
 rw [e0, e1]; exact J9f (by simp only [cat, List.length_append, List.length_cons, List.length_nil]) rfl
theorem Jeg (x : T_api_Copy) : sub (J7 x) 2 1 = some [.s x.Data] := by
 have e0 : J7 x = cat (cat [.i .i64 x.Page] [.i .i64 x.LSN]) [.s x.Data] := by unfold J7; simp only [cat, List.append_assoc]
 rw [e0]; exact J8h (by simp only [cat, List.length_append, List.length_cons, List.length_nil]) rfl
theorem Jea (x : T_api_Copy) (y : List UInt8) : spl (J7 x) 2 [.s y] = some (J7 ⟨x.Page, x.LSN, y⟩) := by
 have e0 : J7 x = cat (cat [.i .i64 x.Page] [.i .i64 x.LSN]) [.s x.Data] := by unfold J7; simp only [cat, List.append_assoc]
 have e1 : J7 ⟨x.Page, x.LSN, y⟩ = cat (cat [.i .i64 x.Page] [.i .i64 x.LSN]) [.s y] := by unfold J7; simp only [cat, List.append_assoc]
 rw [e0, e1]; exact J8D (by simp only [cat, List.length_append, List.length_cons, List.length_nil]) rfl
theorem JkL : (default : T_api_Copy) = (⟨0, 0, []⟩ : T_api_Copy) := rfl
theorem Jja (x : T_api_Copy) : sub (J7 x) 0 3 = some (J7 x) := J8V (J8i x)
theorem Jj3 (x y : T_api_Copy) : spl (J7 x) 0 (J7 y) = some (J7 y) := J93 ((J8i x).trans (J8i y).symm)
theorem Je : (∀ x : T_api_Copy, (J7 x).length = 3) ∧
 (∀ x : T_api_Copy, sub (J7 x) 0 1 = some [.i .i64 x.Page]) ∧
 (∀ (x : T_api_Copy) (y : Int), spl (J7 x) 0 [.i .i64 y] = some (J7 ⟨y, x.LSN, x.Data⟩)) ∧
 (∀ x : T_api_Copy, sub (J7 x) 1 1 = some [.i .i64 x.LSN]) ∧
 (∀ (x : T_api_Copy) (y : Int), spl (J7 x) 1 [.i .i64 y] = some (J7 ⟨x.Page, y, x.Data⟩)) ∧
 (∀ x : T_api_Copy, sub (J7 x) 2 1 = some [.s x.Data]) ∧
 (∀ (x : T_api_Copy) (y : List UInt8), spl (J7 x) 2 [.s y] = some (J7 ⟨x.Page, x.LSN, y⟩)) ∧
 ((default : T_api_Copy) = (⟨0, 0, []⟩ : T_api_Copy)) ∧
 (∀ x : T_api_Copy, sub (J7 x) 0 3 = some (J7 x)) ∧
 (∀ x y : T_api_Copy, spl (J7 x) 0 (J7 y) = some (J7 y)) :=
 ⟨@J8i, @Je9, @Jeb, @JfN, @Jf6, @Jeg, @Jea, JkL, @Jja, @Jj3⟩
theorem J0R : (∀ x : T_api_Copy, J7 x = (cat [.i .i64 x.Page] (cat [.i .i64 x.LSN] [.s x.Data]))) ∧ (default : T_api_Copy) = (⟨0, 0, []⟩ : T_api_Copy) := ⟨fun _ => rfl, rfl⟩
structure T_api_Image where
 ID : Int
 Pages : Int
 Copies : List T_api_Copy
 deriving DecidableEq
instance : Inhabited T_api_Image := ⟨⟨0, 0, []⟩⟩
def J4 (x : T_api_Image) : List PV := (cat [.i .i64 x.ID] (cat [.i .i64 x.Pages] [.sl 3 (List.map J7 x.Copies)]))
theorem J7R (x : T_api_Image) : (J4 x).length = 3 := by
 simp only [cat, J4, List.length_append, List.length_cons, List.length_nil]
theorem JfV (x : T_api_Image) : sub (J4 x) 0 1 = some [.i .i64 x.ID] := by unfold J4; exact J7q rfl
theorem Jfj (x : T_api_Image) (y : Int) : spl (J4 x) 0 [.i .i64 y] = some (J4 ⟨y, x.Pages, x.Copies⟩) := by unfold J4; exact J7t rfl
theorem Jd3 (x : T_api_Image) : sub (J4 x) 1 1 = some [.i .i64 x.Pages] := by
 have e0 : J4 x = cat [.i .i64 x.ID] (cat [.i .i64 x.Pages] [.sl 3 (List.map J7 x.Copies)]) := by unfold J4; simp only [cat, List.append_assoc]
 rw [e0]; exact J9h (by simp only [cat, List.length_append, List.length_cons, List.length_nil]) rfl
theorem Jd9 (x : T_api_Image) (y : Int) : spl (J4 x) 1 [.i .i64 y] = some (J4 ⟨x.ID, y, x.Copies⟩) := by
 have e0 : J4 x = cat [.i .i64 x.ID] (cat [.i .i64 x.Pages] [.sl 3 (List.map J7 x.Copies)]) := by unfold J4; simp only [cat, List.append_assoc]
 have e1 : J4 ⟨x.ID, y, x.Copies⟩ = cat [.i .i64 x.ID] (cat [.i .i64 y] [.sl 3 (List.map J7 x.Copies)]) := by unfold J4; simp only [cat, List.append_assoc]
 rw [e0, e1]; exact J9f (by simp only [cat, List.length_append, List.length_cons, List.length_nil]) rfl
theorem JbK (x : T_api_Image) : sub (J4 x) 2 1 = some [.sl 3 (List.map J7 x.Copies)] := by
 have e0 : J4 x = cat (cat [.i .i64 x.ID] [.i .i64 x.Pages]) [.sl 3 (List.map J7 x.Copies)] := by unfold J4; simp only [cat, List.append_assoc]
 rw [e0]; exact J8h (by simp only [cat, List.length_append, List.length_cons, List.length_nil]) rfl
theorem JbM (x : T_api_Image) (y : List T_api_Copy) : spl (J4 x) 2 [.sl 3 (List.map J7 y)] = some (J4 ⟨x.ID, x.Pages, y⟩) := by
 have e0 : J4 x = cat (cat [.i .i64 x.ID] [.i .i64 x.Pages]) [.sl 3 (List.map J7 x.Copies)] := by unfold J4; simp only [cat, List.append_assoc]
 have e1 : J4 ⟨x.ID, x.Pages, y⟩ = cat (cat [.i .i64 x.ID] [.i .i64 x.Pages]) [.sl 3 (List.map J7 y)] := by unfold J4; simp only [cat, List.append_assoc]
 rw [e0, e1]; exact J8D (by simp only [cat, List.length_append, List.length_cons, List.length_nil]) rfl
theorem Jjt : (default : T_api_Image) = (⟨0, 0, []⟩ : T_api_Image) := rfl
theorem Jhq (x : T_api_Image) : sub (J4 x) 0 3 = some (J4 x) := J8V (J7R x)
theorem Jhi (x y : T_api_Image) : spl (J4 x) 0 (J4 y) = some (J4 y) := J93 ((J7R x).trans (J7R y).symm)
theorem Jf : (∀ x : T_api_Image, (J4 x).length = 3) ∧
 (∀ x : T_api_Image, sub (J4 x) 0 1 = some [.i .i64 x.ID]) ∧
 (∀ (x : T_api_Image) (y : Int), spl (J4 x) 0 [.i .i64 y] = some (J4 ⟨y, x.Pages, x.Copies⟩)) ∧
 (∀ x : T_api_Image, sub (J4 x) 1 1 = some [.i .i64 x.Pages]) ∧
 (∀ (x : T_api_Image) (y : Int), spl (J4 x) 1 [.i .i64 y] = some (J4 ⟨x.ID, y, x.Copies⟩)) ∧
 (∀ x : T_api_Image, sub (J4 x) 2 1 = some [.sl 3 (List.map J7 x.Copies)]) ∧
 (∀ (x : T_api_Image) (y : List T_api_Copy), spl (J4 x) 2 [.sl 3 (List.map J7 y)] = some (J4 ⟨x.ID, x.Pages, y⟩)) ∧
 ((default : T_api_Image) = (⟨0, 0, []⟩ : T_api_Image)) ∧
 (∀ x : T_api_Image, sub (J4 x) 0 3 = some (J4 x)) ∧
 (∀ x y : T_api_Image, spl (J4 x) 0 (J4 y) = some (J4 y)) :=
 ⟨@J7R, @JfV, @Jfj, @Jd3, @Jd9, @JbK, @JbM, Jjt, @Jhq, @Jhi⟩
theorem J0D : (∀ x : T_api_Image, J4 x = (cat [.i .i64 x.ID] (cat [.i .i64 x.Pages] [.sl 3 (List.map J7 x.Copies)]))) ∧ (default : T_api_Image) = (⟨0, 0, []⟩ : T_api_Image) := ⟨fun _ => rfl, rfl⟩
structure J8 where
 Set : Bool
 Data : List UInt8
 deriving DecidableEq
instance : Inhabited J8 := ⟨⟨false, []⟩⟩
def Jb (x : J8) : List PV := (cat [.b x.Set] [.s x.Data])
theorem JT (x : J8) : (Jb x).length = 2 := by
 simp only [cat, Jb, List.length_append, List.length_cons, List.length_nil]
theorem J84 (x : J8) : sub (Jb x) 0 1 = some [.b x.Set] := by unfold Jb; exact J7q rfl
theorem JfL (x : J8) (y : Bool) : spl (Jb x) 0 [.b y] = some (Jb ⟨y, x.Data⟩) := by unfold Jb; exact J7t rfl
theorem J5N (x : J8) : sub (Jb x) 1 1 = some [.s x.Data] := by
 have e0 : Jb x = cat [.b x.Set] [.s x.Data] := by unfold Jb; simp only [cat, List.append_assoc]
 rw [e0]; exact J8h (by simp only [cat, List.length_append, List.length_cons, List.length_nil]) rfl
theorem Jet (x : J8) (y : List UInt8) : spl (Jb x) 1 [.s y] = some (Jb ⟨x.Set, y⟩) := by
 have e0 : Jb x = cat [.b x.Set] [.s x.Data] := by unfold Jb; simp only [cat, List.append_assoc]
 have e1 : Jb ⟨x.Set, y⟩ = cat [.b x.Set] [.s y] := by unfold Jb; simp only [cat, List.append_assoc]
 rw [e0, e1]; exact J8D (by simp only [cat, List.length_append, List.length_cons, List.length_nil]) rfl
theorem Jkk : (default : J8) = (⟨false, []⟩ : J8) := rfl
theorem JiX (x : J8) : sub (Jb x) 0 2 = some (Jb x) := J8V (JT x)
theorem Jjk (x y : J8) : spl (Jb x) 0 (Jb y) = some (Jb y) := J93 ((JT x).trans (JT y).symm)
theorem J5 : (∀ x : J8, (Jb x).length = 2) ∧
 (∀ x : J8, sub (Jb x) 0 1 = some [.b x.Set]) ∧
 (∀ (x : J8) (y : Bool), spl (Jb x) 0 [.b y] = some (Jb ⟨y, x.Data⟩)) ∧
 (∀ x : J8, sub (Jb x) 1 1 = some [.s x.Data]) ∧
 (∀ (x : J8) (y : List UInt8), spl (Jb x) 1 [.s y] = some (Jb ⟨x.Set, y⟩)) ∧
 ((default : J8) = (⟨false, []⟩ : J8)) ∧
 (∀ x : J8, sub (Jb x) 0 2 = some (Jb x)) ∧
 (∀ x y : J8, spl (Jb x) 0 (Jb y) = some (Jb y)) :=
 ⟨@JT, @J84, @JfL, @J5N, @Jet, Jkk, @JiX, @Jjk⟩
theorem J0Q : (∀ x : J8, Jb x = (cat [.b x.Set] [.s x.Data])) ∧ (default : J8) = (⟨false, []⟩ : J8) := ⟨fun _ => rfl, rfl⟩
theorem J2 : (∀ v : Vector J8 16, (JW Jb v).length = 32) ∧ (∀ v : Vector J8 16, sub (JW Jb v) 0 32 = some (JW Jb v)) ∧ (∀ v y : Vector J8 16, spl (JW Jb v) 0 (JW Jb y) = some (JW Jb y)) :=
 ⟨fun v => J4t JT v, fun v => J8V (J4t JT v), fun v y => J93 ((J4t JT v).trans (J4t JT y).symm)⟩
structure T_api_Page where
 ID : Int
 LSN : Int
 Cells : Vector J8 16
 deriving DecidableEq
instance : Inhabited T_api_Page := ⟨⟨0, 0, (Vector.replicate 16 (⟨false, []⟩ : J8))⟩⟩
def J3 (x : T_api_Page) : List PV := (cat [.i .i64 x.ID] (cat [.i .i64 x.LSN] ((JW Jb) x.Cells)))
theorem J8v (x : T_api_Page) : (J3 x).length = 34 := by
 simp only [cat, J3, (J4t JT x.Cells), List.length_append, List.length_cons, List.length_nil]
theorem Jga (x : T_api_Page) : sub (J3 x) 0 1 = some [.i .i64 x.ID] := by unfold J3; exact J7q rfl
theorem Jgv (x : T_api_Page) (y : Int) : spl (J3 x) 0 [.i .i64 y] = some (J3 ⟨y, x.LSN, x.Cells⟩) := by unfold J3; exact J7t rfl
theorem Jf9 (x : T_api_Page) : sub (J3 x) 1 1 = some [.i .i64 x.LSN] := by
 have e0 : J3 x = cat [.i .i64 x.ID] (cat [.i .i64 x.LSN] ((JW Jb) x.Cells)) := by unfold J3; simp only [cat, List.append_assoc]
 rw [e0]; exact J9h (by simp only [cat, List.length_append, List.length_cons, List.length_nil, (J4t JT x.Cells)]) rfl
theorem Jfy (x : T_api_Page) (y : Int) : spl (J3 x) 1 [.i .i64 y] = some (J3 ⟨x.ID, y, x.Cells⟩) := by
 have e0 : J3 x = cat [.i .i64 x.ID] (cat [.i .i64 x.LSN] ((JW Jb) x.Cells)) := by unfold J3; simp only [cat, List.append_assoc]
 have e1 : J3 ⟨x.ID, y, x.Cells⟩ = cat [.i .i64 x.ID] (cat [.i .i64 y] ((JW Jb) x.Cells)) := by unfold J3; simp only [cat, List.append_assoc]
 rw [e0, e1]; exact J9f (by simp only [cat, List.length_append, List.length_cons, List.length_nil, (J4t JT x.Cells)]) rfl
theorem J1i (x : T_api_Page) : sub (J3 x) 2 32 = some ((JW Jb) x.Cells) := by
 have e0 : J3 x = cat (cat [.i .i64 x.ID] [.i .i64 x.LSN]) ((JW Jb) x.Cells) := by unfold J3; simp only [cat, List.append_assoc]
 rw [e0]; exact J8h (by simp only [cat, List.length_append, List.length_cons, List.length_nil, (J4t JT x.Cells)]) (J4t JT _)
theorem J71 (x : T_api_Page) (y : Vector J8 16) : spl (J3 x) 2 ((JW Jb) y) = some (J3 ⟨x.ID, x.LSN, y⟩) := by
 have e0 : J3 x = cat (cat [.i .i64 x.ID] [.i .i64 x.LSN]) ((JW Jb) x.Cells) := by unfold J3; simp only [cat, List.append_assoc]
 have e1 : J3 ⟨x.ID, x.LSN, y⟩ = cat (cat [.i .i64 x.ID] [.i .i64 x.LSN]) ((JW Jb) y) := by unfold J3; simp only [cat, List.append_assoc]
 rw [e0, e1]; exact J8D (by simp only [cat, List.length_append, List.length_cons, List.length_nil, (J4t JT x.Cells)]) ((J4t JT _).trans (J4t JT _).symm)
theorem Jl2 : (default : T_api_Page) = (⟨0, 0, (Vector.replicate 16 (⟨false, []⟩ : J8))⟩ : T_api_Page) := rfl
theorem JiM (x : T_api_Page) : sub (J3 x) 0 34 = some (J3 x) := J8V (J8v x)
theorem JiI (x y : T_api_Page) : spl (J3 x) 0 (J3 y) = some (J3 y) := J93 ((J8v x).trans (J8v y).symm)
theorem J6 : (∀ x : T_api_Page, (J3 x).length = 34) ∧
 (∀ x : T_api_Page, sub (J3 x) 0 1 = some [.i .i64 x.ID]) ∧
 (∀ (x : T_api_Page) (y : Int), spl (J3 x) 0 [.i .i64 y] = some (J3 ⟨y, x.LSN, x.Cells⟩)) ∧
 (∀ x : T_api_Page, sub (J3 x) 1 1 = some [.i .i64 x.LSN]) ∧
 (∀ (x : T_api_Page) (y : Int), spl (J3 x) 1 [.i .i64 y] = some (J3 ⟨x.ID, y, x.Cells⟩)) ∧
 (∀ x : T_api_Page, sub (J3 x) 2 32 = some ((JW Jb) x.Cells)) ∧
 (∀ (x : T_api_Page) (y : Vector J8 16), spl (J3 x) 2 ((JW Jb) y) = some (J3 ⟨x.ID, x.LSN, y⟩)) ∧
 ((default : T_api_Page) = (⟨0, 0, (Vector.replicate 16 (⟨false, []⟩ : J8))⟩ : T_api_Page)) ∧
 (∀ x : T_api_Page, sub (J3 x) 0 34 = some (J3 x)) ∧
 (∀ x y : T_api_Page, spl (J3 x) 0 (J3 y) = some (J3 y)) :=
 ⟨@J8v, @Jga, @Jgv, @Jf9, @Jfy, @J1i, @J71, Jl2, @JiM, @JiI⟩
structure T_pagemenddraw_Codes where
 l_ : List Int
 at_ : Int
 deriving DecidableEq
instance : Inhabited T_pagemenddraw_Codes := ⟨⟨[], 0⟩⟩
def J0 (x : T_pagemenddraw_Codes) : List PV := (cat [.sl 1 (List.map (r_i .u8) x.l_)] [.i .i64 x.at_])
theorem J3V (x : T_pagemenddraw_Codes) : (J0 x).length = 2 := by
 simp only [cat, J0, List.length_append, List.length_cons, List.length_nil]
theorem J9U (x : T_pagemenddraw_Codes) : sub (J0 x) 0 1 = some [.sl 1 (List.map (r_i .u8) x.l_)] := by unfold J0; exact J7q rfl
theorem J9J (x : T_pagemenddraw_Codes) (y : List Int) : spl (J0 x) 0 [.sl 1 (List.map (r_i .u8) y)] = some (J0 ⟨y, x.at_⟩) := by unfold J0; exact J7t rfl
theorem J9j (x : T_pagemenddraw_Codes) : sub (J0 x) 1 1 = some [.i .i64 x.at_] := by
 have e0 : J0 x = cat [.sl 1 (List.map (r_i .u8) x.l_)] [.i .i64 x.at_] := by unfold J0; simp only [cat, List.append_assoc]
 rw [e0]; exact J8h (by simp only [cat, List.length_append, List.length_cons, List.length_nil]) rfl
theorem J9u (x : T_pagemenddraw_Codes) (y : Int) : spl (J0 x) 1 [.i .i64 y] = some (J0 ⟨x.l_, y⟩) := by
 have e0 : J0 x = cat [.sl 1 (List.map (r_i .u8) x.l_)] [.i .i64 x.at_] := by unfold J0; simp only [cat, List.append_assoc]
 have e1 : J0 ⟨x.l_, y⟩ = cat [.sl 1 (List.map (r_i .u8) x.l_)] [.i .i64 y] := by unfold J0; simp only [cat, List.append_assoc]
 rw [e0, e1]; exact J8D (by simp only [cat, List.length_append, List.length_cons, List.length_nil]) rfl
theorem Jb5 : (default : T_pagemenddraw_Codes) = (⟨[], 0⟩ : T_pagemenddraw_Codes) := rfl
theorem Jaw (x : T_pagemenddraw_Codes) : sub (J0 x) 0 2 = some (J0 x) := J8V (J3V x)
theorem Jau (x y : T_pagemenddraw_Codes) : spl (J0 x) 0 (J0 y) = some (J0 y) := J93 ((J3V x).trans (J3V y).symm)
theorem Jh : (∀ x : T_pagemenddraw_Codes, (J0 x).length = 2) ∧
 (∀ x : T_pagemenddraw_Codes, sub (J0 x) 0 1 = some [.sl 1 (List.map (r_i .u8) x.l_)]) ∧
 (∀ (x : T_pagemenddraw_Codes) (y : List Int), spl (J0 x) 0 [.sl 1 (List.map (r_i .u8) y)] = some (J0 ⟨y, x.at_⟩)) ∧
 (∀ x : T_pagemenddraw_Codes, sub (J0 x) 1 1 = some [.i .i64 x.at_]) ∧
 (∀ (x : T_pagemenddraw_Codes) (y : Int), spl (J0 x) 1 [.i .i64 y] = some (J0 ⟨x.l_, y⟩)) ∧
 ((default : T_pagemenddraw_Codes) = (⟨[], 0⟩ : T_pagemenddraw_Codes)) ∧
 (∀ x : T_pagemenddraw_Codes, sub (J0 x) 0 2 = some (J0 x)) ∧
 (∀ x y : T_pagemenddraw_Codes, spl (J0 x) 0 (J0 y) = some (J0 y)) :=
 ⟨@J3V, @J9U, @J9J, @J9j, @J9u, Jb5, @Jaw, @Jau⟩
structure T_page_builder where
 s_ : List UInt8
 deriving DecidableEq
instance : Inhabited T_page_builder := ⟨⟨[]⟩⟩
def J0t (x : T_page_builder) : List PV := [.s x.s_]
theorem Jw : (∀ x : T_page_builder, J0t x = [.s x.s_]) ∧ (default : T_page_builder) = (⟨[]⟩ : T_page_builder) := ⟨fun _ => rfl, rfl⟩
theorem J5v : (∀ v : Vector Int 16, (JW (r_i .u32) v).length = 16) ∧ (∀ v : Vector Int 16, sub (JW (r_i .u32) v) 0 16 = some (JW (r_i .u32) v)) ∧ (∀ v y : Vector Int 16, spl (JW (r_i .u32) v) 0 (JW (r_i .u32) y) = some (JW (r_i .u32) y)) :=
 ⟨fun v => J4t (J8X .u32) v, fun v => J8V (J4t (J8X .u32) v), fun v y => J93 ((J4t (J8X .u32) v).trans (J4t (J8X .u32) y).symm)⟩
end Go.Am
end
section
namespace Go.Am
set_option maxRecDepth 8000
set_option maxHeartbeats 4000000
set_option linter.unusedSimpArgs false
set_option linter.unusedVariables false
abbrev J4R : FuncId := 7
abbrev J5b : FuncId := 18
abbrev J7g : FuncId := 19
abbrev J1a : FuncId := 22
abbrev J3n : FuncId := 30
abbrev Jm : FuncId := 31
abbrev J3M : FuncId := 32
abbrev J9r : FuncId := 34
abbrev J55 : FuncId := 37
abbrev J68 : FuncId := 40
abbrev J6G : FuncId := 42
abbrev J64 : FuncId := 43
abbrev J4a : FuncId := 44
abbrev J2P : FuncId := 57
abbrev J3p : FuncId := 64
abbrev J7P : FuncId := 69
abbrev JcB : FuncId := 70
abbrev JeU : FuncId := 72
abbrev J7N : FuncId := 107
abbrev J17 : FuncId := 108
abbrev J35 : FuncId := 110
abbrev J6E : FuncId := 114
abbrev J6j : FuncId := 118
abbrev J3r : FuncId := 120
abbrev J59 : FuncId := 121
abbrev J2T : FuncId := 122
abbrev J5F : FuncId := 123
abbrev J3l : FuncId := 126
abbrev J56 : FuncId := 128
abbrev J5S : FuncId := 129
abbrev J0J : FuncId := 130
abbrev J1L : FuncId := 131
abbrev J3U : FuncId := 132
abbrev J4f : FuncId := 137
abbrev J0s : FuncId := 138
abbrev J0U : FuncId := 139
abbrev J44 : FuncId := 170
abbrev J53 : FuncId := 171
abbrev J7F : FuncId := 178
abbrev J91 : FuncId := 179
abbrev Jb1 : FuncId := 180
abbrev J4J : FuncId := 184
abbrev J5l : FuncId := 185
abbrev J7f : FuncId := 186
abbrev J2X : FuncId := 191
abbrev JP : FuncId := 195
abbrev J0b : FuncId := 196
abbrev J3o : FuncId := 216
abbrev J2O : FuncId := 219
abbrev J6B : FuncId := 220
def Jaf : Jc := .seq (.reg false [] [⟨.mv (.t 0), some 12, none⟩,
  ⟨.build (J0 default) [(0, 1, (.t 12))], some 13, none⟩,
  ⟨.box 2 (.t 13), some 14, none⟩,
  ⟨.mv (.t 14), some 4, none⟩])
 (.ret)
def J7u : Jc := .seq (.reg false [] [⟨.mv (.c (.p .np)), some 4, none⟩])
 (.seq (.seq (.reg false [] [⟨.mv (.t 0), some 5, none⟩,
  ⟨.len false (.t 5), some 6, none⟩,
  ⟨.mv (.t 1), some 7, none⟩,
  ⟨.bin .gtr .plain (.t 6) (.t 7), some 8, none⟩])
 (.keep [0, 1, 8] (.cond (.t 8)
 (.reg false [] [⟨.mv (.t 0), some 9, none⟩,
   ⟨.mv (.t 1), some 10, none⟩,
   ⟨.slice (.sl 1) (.t 9) none (some (.t 10)) none, some 11, none⟩,
   ⟨.mv (.t 11), some 0, none⟩])
 (.skip))))
 (.keep [0] Jaf))
def J6o : AFn := ⟨2, 15, J7u, [.tmp 4], false⟩
def J16 : Jc := .seq (.reg false [] [⟨.mv (.c (.p (.i .i64 0))), some 4, none⟩])
 (.seq (.seq (.reg true [] [⟨.mv (.t 0), some 6, none⟩,
  ⟨.nilchk (.t 6), some 7, none⟩,
  ⟨.faddr 1 (.t 7), some 8, none⟩,
  ⟨.load false 1 (.t 8), some 9, none⟩,
  ⟨.mv (.t 0), some 10, none⟩,
  ⟨.nilchk (.t 10), some 11, none⟩,
  ⟨.faddr 0 (.t 11), some 12, none⟩,
  ⟨.load false 1 (.t 12), some 13, none⟩,
  ⟨.len false (.t 13), some 14, none⟩,
  ⟨.bin .geq .plain (.t 9) (.t 14), some 15, none⟩,
  ⟨.mv (.t 15), some 16, none⟩,
  ⟨.mv (.t 1), some 17, some (16, false)⟩,
  ⟨.bin .lss .plain (.t 17) (.c (.p (.i .i64 1))), some 18, some (16, false)⟩,
  ⟨.pick (.t 16) (.c (.p (.b true))) (.t 18), some 19, none⟩])
 (.keep [0, 1, 19] (.cond (.t 19)
 (.seq (.reg false [] [⟨.mv (.c (.p (.i .i64 0))), some 4, none⟩])
  (.ret))
 (.skip))))
 (.seq (.reg true [] [⟨.mv (.t 0), some 20, none⟩,
  ⟨.nilchk (.t 20), some 21, none⟩,
  ⟨.faddr 0 (.t 21), some 22, none⟩,
  ⟨.load false 1 (.t 22), some 23, none⟩,
  ⟨.mv (.t 0), some 24, none⟩,
  ⟨.nilchk (.t 24), some 25, none⟩,
  ⟨.faddr 1 (.t 25), some 26, none⟩,
  ⟨.load false 1 (.t 26), some 27, none⟩,
  ⟨.iaddr 1 (.t 23) (.t 27), some 28, none⟩,
  ⟨.load false 1 (.t 28), some 29, none⟩,
  ⟨.conv (.int .i64) (.t 29), some 30, none⟩,
  ⟨.mv (.t 30), some 5, none⟩])
 (.keep [0, 1, 5] (.seq (.reg false [] [⟨.mv (.t 0), some 31, none⟩,
  ⟨.nilchk (.t 31), some 32, none⟩,
  ⟨.faddr 1 (.t 32), some 33, none⟩,
  ⟨.load false 1 (.t 33), some 34, none⟩,
  ⟨.bin .add .plain (.t 34) (.c (.p (.i .i64 1))), some 35, none⟩,
  ⟨.nilchk (.t 31), some 36, none⟩,
  ⟨.faddr 1 (.t 36), some 37, none⟩,
  ⟨.store 1 (.t 37) (.t 35), none, none⟩])
 (.keep [0, 1, 5] (.seq (.seq (.reg false [] [⟨.mv (.t 1), some 38, none⟩,
  ⟨.bin .gtr .plain (.t 38) (.c (.p (.i .i64 256))), some 39, none⟩])
 (.cond (.t 39)
 (.seq (.reg false [] [⟨.mv (.t 5), some 40, none⟩,
   ⟨.bin .mul .plain (.c (.p (.i .i64 256))) (.t 40), some 41, none⟩,
   ⟨.mv (.t 0), some 42, none⟩,
   ⟨.call Jm [(.t 42), (.c (.p (.i .i64 256)))] 0, some 43, none⟩,
   ⟨.bin .add .plain (.t 41) (.t 43), some 44, none⟩,
   ⟨.mv (.t 1), some 45, none⟩,
   ⟨.bin .rem .plain (.t 44) (.t 45), some 46, none⟩,
   ⟨.mv (.t 46), some 4, none⟩])
  (.ret))
 (.skip)))
 (.seq (.reg false [] [⟨.mv (.t 5), some 47, none⟩,
  ⟨.mv (.t 1), some 48, none⟩,
  ⟨.bin .rem .plain (.t 47) (.t 48), some 49, none⟩,
  ⟨.mv (.t 49), some 4, none⟩])
 (.ret))))))))
def J3m : AFn := ⟨2, 50, J16, [.tmp 4], false⟩
def J1t : Jc := .seq (.seq (.reg false [] [⟨.mv (.t 5), some 15, none⟩,
  ⟨.mv (.t 3), some 16, none⟩,
  ⟨.bin .lss .plain (.t 15) (.t 16), some 17, none⟩])
 (.keep [0, 3, 4, 5, 17] (.cond (.t 17)
 (.skip)
 (.exit 0))))
 (.seq (.block 1 (.reg false [] [⟨.mv (.t 4), some 20, none⟩,
  ⟨.mv (.t 0), some 21, none⟩,
  ⟨.call Jm [(.t 21), (.c (.p (.i .i64 3)))] 0, some 22, none⟩,
  ⟨.bin .add .plain (.c (.p (.i .i64 97))) (.t 22), some 23, none⟩,
  ⟨.conv (.int .u8) (.t 23), some 24, none⟩,
  ⟨.lits false 1 1 [(.i .u8 0)] [(0, (.t 24))], some 25, none⟩,
  ⟨.app 1 1 [(.i .u8 0)] (.t 20) (.t 25), some 26, none⟩,
  ⟨.mv (.t 26), some 4, none⟩]))
 (.reg false [] [⟨.mv (.t 5), some 18, none⟩,
  ⟨.bin .add .plain (.t 18) (.c (.p (.i .i64 1))), some 19, none⟩,
  ⟨.mv (.t 19), some 5, none⟩]))
def J1Y : Jc := .seq (.reg false [] [⟨.mv (.t 4), some 27, none⟩,
  ⟨.conv .toStr (.t 27), some 28, none⟩,
  ⟨.mv (.t 28), some 2, none⟩])
 (.ret)
def J6O : Jc := .seq (.reg false [] [⟨.mv (.t 3), some 13, none⟩,
  ⟨.mkslice true 1 1 [(.i .u8 0)] (.c (.p (.i .i64 0))) (.t 13), some 14, none⟩,
  ⟨.mv (.t 14), some 4, none⟩])
 (.keep [0, 3, 4] (.seq (.seq (.reg false [] [⟨.mv (.c (.p (.i .i64 0))), some 5, none⟩])
 (.block 0 (.loop [0, 3, 4, 5] J1t)))
 (.keep [4] J1Y)))
def J2n : Jc := .seq (.reg false [] [⟨.mv (.c (.p (.s []))), some 2, none⟩])
 (.seq (.reg false [] [⟨.mv (.t 0), some 6, none⟩,
  ⟨.call Jm [(.t 6), (.c (.p (.i .i64 5)))] 0, some 7, none⟩,
  ⟨.mv (.t 7), some 3, none⟩])
 (.keep [0, 3] (.seq (.seq (.reg false [] [⟨.mv (.t 0), some 8, none⟩,
  ⟨.call Jm [(.t 8), (.c (.p (.i .i64 6)))] 0, some 9, none⟩,
  ⟨.bin .eql .plain (.t 9) (.c (.p (.i .i64 0))), some 10, none⟩])
 (.keep [0, 3, 10] (.cond (.t 10)
 (.reg false [] [⟨.mv (.t 0), some 11, none⟩,
   ⟨.call Jm [(.t 11), (.c (.p (.i .i64 14)))] 0, some 12, none⟩,
   ⟨.mv (.t 12), some 3, none⟩])
 (.skip))))
 (.keep [0, 3] J6O))))
def J0y : AFn := ⟨1, 29, J2n, [.tmp 2], false⟩
def J3B : Jc := .seq (.seq (.reg false [] [⟨.mv (.t 7), some 15, none⟩,
  ⟨.mv (.t 2), some 16, none⟩,
  ⟨.bin .lss .plain (.t 15) (.t 16), some 17, none⟩])
 (.keep [0, 1, 2, 7, 17] (.cond (.t 17)
 (.skip)
 (.exit 0))))
 (.seq (.block 1 (.reg false [] [⟨.mv (.t 0), some 20, none⟩,
  ⟨.mv (.t 1), some 21, none⟩,
  ⟨.conv (.int .u64) (.t 21), some 22, none⟩,
  ⟨.mv (.t 7), some 23, none⟩,
  ⟨.bin .mul .plain (.c (.p (.i .i64 8))) (.t 23), some 24, none⟩,
  ⟨.conv (.int .u64) (.t 24), some 25, none⟩,
  ⟨.bin .shr .plain (.t 22) (.t 25), some 26, none⟩,
  ⟨.conv (.int .u8) (.t 26), some 27, none⟩,
  ⟨.lits false 1 1 [(.i .u8 0)] [(0, (.t 27))], some 28, none⟩,
  ⟨.conv .toStr (.t 28), some 29, none⟩,
  ⟨.bin .add .plain (.t 20) (.t 29), some 30, none⟩,
  ⟨.mv (.t 30), some 0, none⟩]))
 (.reg false [] [⟨.mv (.t 7), some 18, none⟩,
  ⟨.bin .add .plain (.t 18) (.c (.p (.i .i64 1))), some 19, none⟩,
  ⟨.mv (.t 19), some 7, none⟩]))
def J4b : Jc := .seq (.reg false [] [⟨.mv (.t 0), some 31, none⟩,
  ⟨.mv (.t 31), some 6, none⟩])
 (.ret)
def J4B : Jc := .seq (.reg false [] [⟨.mv (.c (.p (.s []))), some 6, none⟩])
 (.seq (.seq (.reg false [] [⟨.mv (.t 2), some 8, none⟩,
  ⟨.bin .lss .plain (.t 8) (.c (.p (.i .i64 1))), some 9, none⟩,
  ⟨.mv (.t 9), some 10, none⟩,
  ⟨.mv (.t 2), some 11, some (10, false)⟩,
  ⟨.bin .gtr .plain (.t 11) (.c (.p (.i .i64 8))), some 12, some (10, false)⟩,
  ⟨.pick (.t 10) (.c (.p (.b true))) (.t 12), some 13, none⟩])
 (.keep [0, 1, 2, 13] (.cond (.t 13)
 (.seq (.reg false [] [⟨.mv (.t 0), some 14, none⟩,
   ⟨.mv (.t 14), some 6, none⟩])
  (.ret))
 (.skip))))
 (.seq (.seq (.reg false [] [⟨.mv (.c (.p (.i .i64 0))), some 7, none⟩])
 (.block 0 (.loop [0, 1, 2, 7] J3B)))
 (.keep [0] J4b)))
def J2F : AFn := ⟨3, 32, J4B, [.tmp 6], false⟩
def J3x : Jc := .seq (.reg false [] [⟨.bin .lss .plain (.t 35) (.t 34), some 36, none⟩])
 (.seq (.cond (.t 36)
 (.skip)
 (.exit 1))
 (.seq (.block 2 (.seq (.reg false [] [⟨.mv (.t 35), some 37, none⟩,
  ⟨.mv (.t 37), some 9, none⟩])
 (.reg false [] [⟨.mv (.t 8), some 38, none⟩,
  ⟨.mv (.t 0), some 39, none⟩,
  ⟨.mv (.t 1), some 40, none⟩,
  ⟨.mv (.t 9), some 41, none⟩,
  ⟨.bin .add .plain (.t 40) (.t 41), some 42, none⟩,
  ⟨.sidx (.t 39) (.t 42), some 43, none⟩,
  ⟨.conv (.int .u64) (.t 43), some 44, none⟩,
  ⟨.mv (.t 9), some 45, none⟩,
  ⟨.bin .mul .plain (.c (.p (.i .i64 8))) (.t 45), some 46, none⟩,
  ⟨.bin .shl .plain (.t 44) (.t 46), some 47, none⟩,
  ⟨.bin .or .plain (.t 38) (.t 47), some 48, none⟩,
  ⟨.mv (.t 48), some 8, none⟩])))
 (.reg false [] [⟨.bin .add .plain (.t 35) (.c (.p (.i .i64 1))), some 49, none⟩,
  ⟨.mv (.t 49), some 35, none⟩])))
def J4g : Jc := .seq (.reg false [] [⟨.mv (.t 8), some 50, none⟩,
  ⟨.conv (.int .i64) (.t 50), some 51, none⟩,
  ⟨.mv (.t 51), some 6, none⟩,
  ⟨.mv (.c (.p (.i .i64 0))), some 7, none⟩])
 (.ret)
def J1G : Jc := .seq (.reg false [] [⟨.mv (.c (.p (.i .i64 0))), some 6, none⟩,
  ⟨.mv (.c (.p (.i .i64 0))), some 7, none⟩])
 (.seq (.block 0 (.seq (.reg false [] [⟨.mv (.t 2), some 11, none⟩,
  ⟨.bin .lss .plain (.t 11) (.c (.p (.i .i64 1))), some 12, none⟩,
  ⟨.mv (.t 12), some 13, none⟩,
  ⟨.mv (.t 2), some 14, some (13, false)⟩,
  ⟨.bin .gtr .plain (.t 14) (.c (.p (.i .i64 8))), some 15, some (13, false)⟩,
  ⟨.pick (.t 13) (.c (.p (.b true))) (.t 15), some 16, none⟩,
  ⟨.mv (.t 16), some 17, none⟩,
  ⟨.mv (.t 1), some 18, some (17, false)⟩,
  ⟨.bin .lss .plain (.t 18) (.c (.p (.i .i64 0))), some 19, some (17, false)⟩,
  ⟨.pick (.t 17) (.c (.p (.b true))) (.t 19), some 20, none⟩,
  ⟨.mv (.t 20), some 10, none⟩])
 (.keep [0, 1, 2, 10] (.cond (.t 10)
 (.seq (.reg false [] [⟨.mv (.c (.p (.i .i64 0))), some 6, none⟩,
   ⟨.mv (.c (.p (.i .i64 1))), some 7, none⟩])
  (.ret))
 (.seq (.reg false [] [⟨.mv (.t 1), some 22, none⟩,
   ⟨.mv (.t 0), some 23, none⟩,
   ⟨.len true (.t 23), some 24, none⟩,
   ⟨.bin .gtr .plain (.t 22) (.t 24), some 25, none⟩,
   ⟨.mv (.t 25), some 26, none⟩,
   ⟨.mv (.t 0), some 27, some (26, false)⟩,
   ⟨.len true (.t 27), some 28, some (26, false)⟩,
   ⟨.mv (.t 1), some 29, some (26, false)⟩,
   ⟨.bin .sub .plain (.t 28) (.t 29), some 30, some (26, false)⟩,
   ⟨.mv (.t 2), some 31, some (26, false)⟩,
   ⟨.bin .lss .plain (.t 30) (.t 31), some 32, some (26, false)⟩,
   ⟨.pick (.t 26) (.c (.p (.b true))) (.t 32), some 33, none⟩,
   ⟨.mv (.t 33), some 21, none⟩])
  (.keep [0, 1, 2, 21] (.cond (.t 21)
  (.seq (.reg false [] [⟨.mv (.c (.p (.i .i64 0))), some 6, none⟩,
    ⟨.mv (.c (.p (.i .i64 5))), some 7, none⟩])
   (.ret))
  (.skip))))))))
 (.seq (.reg false [] [⟨.mv (.c (.p (.i .u64 0))), some 8, none⟩])
 (.seq (.seq (.reg false [] [⟨.mv (.t 2), some 34, none⟩,
  ⟨.mv (.c (.p (.i .i64 0))), some 35, none⟩])
 (.block 1 (.loop [0, 1, 8, 34, 35] J3x)))
 (.keep [8] J4g))))
def J2G : AFn := ⟨3, 52, J1G, [.tmp 6, .tmp 7], false⟩
def J2l : Jc := .seq (.reg false [] [⟨.newbox (Jb default), some 2, none⟩])
 (.seq (.seq (.reg false [] [⟨.mv (.t 0), some 4, none⟩,
  ⟨.call Jm [(.t 4), (.c (.p (.i .i64 3)))] 0, some 5, none⟩,
  ⟨.bin .eql .plain (.t 5) (.c (.p (.i .i64 0))), some 6, none⟩])
 (.keep [0, 2, 6] (.cond (.t 6)
 (.seq (.reg false [] [⟨.build (Jb default) [], some 7, none⟩,
   ⟨.store 2 (.t 2) (.t 7), none, none⟩])
  (.ret))
 (.skip))))
 (.seq (.reg false [] [⟨.mv (.t 0), some 8, none⟩,
  ⟨.call J3p [(.t 8)] 0, some 9, none⟩,
  ⟨.mv (.t 9), some 3, none⟩])
 (.keep [2, 3] (.seq (.reg false [] [⟨.mv (.t 3), some 10, none⟩,
  ⟨.mv (.t 3), some 11, none⟩,
  ⟨.len true (.t 11), some 12, none⟩,
  ⟨.mm false (.t 12) (.c (.p (.i .i64 12))), some 13, none⟩,
  ⟨.slice .str (.t 10) none (some (.t 13)) none, some 14, none⟩,
  ⟨.build (Jb default) [(0, 1, (.c (.p (.b true)))), (1, 1, (.t 14))], some 15, none⟩,
  ⟨.store 2 (.t 2) (.t 15), none, none⟩])
 (.ret)))))
def J3v : AFn := ⟨1, 16, J2l, [.cell 2 true 2], false⟩
def J6t : Jc := .seq (.reg false [] [⟨.mv (.c (.p (.s []))), some 2, none⟩])
 (.seq (.reg false [] [⟨.mv (.t 0), some 3, none⟩,
  ⟨.mkslice false 1 1 [(.i .u8 0)] (.t 3) (.t 3), some 4, none⟩,
  ⟨.conv .toStr (.t 4), some 5, none⟩,
  ⟨.mv (.t 5), some 2, none⟩])
 (.ret))
def J5m : AFn := ⟨1, 6, J6t, [.tmp 2], false⟩
def J9o : Jc := .reg false [] [⟨.mv (.t 5), some 20, none⟩,
  ⟨.bin .add .plain (.t 20) (.c (.p (.i .i64 1))), some 21, none⟩,
  ⟨.mv (.t 21), some 5, none⟩]
def J1O : Jc := .seq (.seq (.reg false [] [⟨.mv (.t 5), some 18, none⟩,
  ⟨.bin .lss .plain (.t 18) (.c (.p (.i .i64 8))), some 19, none⟩])
 (.cond (.t 19)
 (.skip)
 (.exit 2)))
 (.seq (.block 3 (.seq (.reg false [] [⟨.mv (.t 3), some 22, none⟩,
  ⟨.bin .and .plain (.t 22) (.c (.p (.i .u32 1))), some 23, none⟩,
  ⟨.bin .eql .plain (.t 23) (.c (.p (.i .u32 1))), some 24, none⟩])
 (.keep [0, 3, 4, 5, 24] (.cond (.t 24)
 (.reg false [] [⟨.mv (.t 3), some 25, none⟩,
   ⟨.bin .shr .plain (.t 25) (.c (.p (.i .u64 1))), some 26, none⟩,
   ⟨.bin .xor .plain (.t 26) (.c (.p (.i .u32 2197175160))), some 27, none⟩,
   ⟨.mv (.t 27), some 3, none⟩])
 (.reg false [] [⟨.mv (.t 3), some 28, none⟩,
   ⟨.bin .shr .plain (.t 28) (.c (.p (.i .u64 1))), some 29, none⟩,
   ⟨.mv (.t 29), some 3, none⟩])))))
 (.keep [0, 3, 4, 5] J9o))
def J3y : Jc := .reg false [] [⟨.mv (.t 4), some 10, none⟩,
  ⟨.bin .add .plain (.t 10) (.c (.p (.i .i64 1))), some 11, none⟩,
  ⟨.mv (.t 11), some 4, none⟩]
def J0Z : Jc := .seq (.seq (.reg false [] [⟨.mv (.t 4), some 6, none⟩,
  ⟨.mv (.t 0), some 7, none⟩,
  ⟨.len true (.t 7), some 8, none⟩,
  ⟨.bin .lss .plain (.t 6) (.t 8), some 9, none⟩])
 (.keep [0, 3, 4, 9] (.cond (.t 9)
 (.skip)
 (.exit 0))))
 (.seq (.block 1 (.seq (.reg false [] [⟨.mv (.t 3), some 12, none⟩,
  ⟨.mv (.t 0), some 13, none⟩,
  ⟨.mv (.t 4), some 14, none⟩,
  ⟨.sidx (.t 13) (.t 14), some 15, none⟩,
  ⟨.conv (.int .u32) (.t 15), some 16, none⟩,
  ⟨.bin .xor .plain (.t 12) (.t 16), some 17, none⟩,
  ⟨.mv (.t 17), some 3, none⟩])
 (.keep [0, 3, 4] (.seq (.reg false [] [⟨.mv (.c (.p (.i .i64 0))), some 5, none⟩])
 (.block 2 (.loop [0, 3, 4, 5] J1O))))))
 (.keep [0, 3, 4] J3y))
def J1d : Jc := .seq (.reg false [] [⟨.mv (.t 3), some 30, none⟩,
  ⟨.un .xor (.t 30), some 31, none⟩,
  ⟨.mv (.t 31), some 2, none⟩])
 (.ret)
def J7H : Jc := .seq (.reg false [] [⟨.mv (.c (.p (.i .u32 0))), some 2, none⟩])
 (.seq (.reg false [] [⟨.mv (.c (.p (.i .u32 4294967295))), some 3, none⟩])
 (.seq (.seq (.reg false [] [⟨.mv (.c (.p (.i .i64 0))), some 4, none⟩])
 (.block 0 (.loop [0, 3, 4] J0Z)))
 (.keep [3] J1d)))
def J0S : AFn := ⟨1, 32, J7H, [.tmp 2], false⟩
def J0n : Jc := .seq (.reg false [] [⟨.bin .lss .plain (.t 7) (.c (.p (.i .i64 16))), some 8, none⟩])
 (.seq (.cond (.t 8)
 (.skip)
 (.exit 0))
 (.seq (.block 1 (.seq (.reg false [] [⟨.aidx true 16 2 (.t 6) (.t 7), some 9, none⟩,
  ⟨.newbox (Jb default), some 4, none⟩,
  ⟨.store 2 (.t 4) (.t 9), none, none⟩])
 (.keep [1, 4, 6, 7] (.seq (.reg false [] [⟨.faddr 1 (.t 4), some 10, none⟩,
  ⟨.load false 1 (.t 10), some 11, none⟩,
  ⟨.len true (.t 11), some 12, none⟩,
  ⟨.bin .gtr .plain (.t 12) (.c (.p (.i .i64 12))), some 13, none⟩,
  ⟨.mv (.t 13), some 14, none⟩,
  ⟨.faddr 0 (.t 4), some 15, some (14, false)⟩,
  ⟨.load false 1 (.t 15), some 16, some (14, false)⟩,
  ⟨.un .not (.t 16), some 17, some (14, false)⟩,
  ⟨.mv (.t 17), some 18, some (14, false)⟩,
  ⟨.faddr 1 (.t 4), some 19, some (18, true)⟩,
  ⟨.load false 1 (.t 19), some 20, some (18, true)⟩,
  ⟨.bin .neq .plain (.t 20) (.c (.p (.s []))), some 21, some (18, true)⟩,
  ⟨.pick (.t 18) (.t 21) (.c (.p (.b false))), some 22, some (14, false)⟩,
  ⟨.pick (.t 14) (.c (.p (.b true))) (.t 22), some 23, none⟩,
  ⟨.mv (.t 23), some 24, none⟩,
  ⟨.faddr 0 (.t 4), some 25, some (24, false)⟩,
  ⟨.load false 1 (.t 25), some 26, some (24, false)⟩,
  ⟨.mv (.t 26), some 27, some (24, false)⟩,
  ⟨.faddr 1 (.t 1), some 28, some (27, true)⟩,
  ⟨.load false 1 (.t 28), some 29, some (27, true)⟩,
  ⟨.bin .eql .plain (.t 29) (.c (.p (.i .i64 0))), some 30, some (27, true)⟩,
  ⟨.pick (.t 27) (.t 30) (.c (.p (.b false))), some 31, some (24, false)⟩,
  ⟨.pick (.t 24) (.c (.p (.b true))) (.t 31), some 32, none⟩])
 (.keep [1, 6, 7, 32] (.cond (.t 32)
 (.seq (.reg false [] [⟨.mv (.c (.p (.b false))), some 2, none⟩])
  (.ret))
 (.skip)))))))
 (.reg false [] [⟨.bin .add .plain (.t 7) (.c (.p (.i .i64 1))), some 33, none⟩,
  ⟨.mv (.t 33), some 7, none⟩])))
def J3Q : Jc := .seq (.reg false [] [⟨.mv (.c (.p (.b true))), some 2, none⟩])
 (.ret)
def J74 : Jc := .seq (.reg false [] [⟨.box 34 (.t 0), some 1, none⟩,
  ⟨.mv (.c (.p (.b false))), some 2, none⟩])
 (.seq (.tidy [2] (.seq (.reg false [] [⟨.faddr 2 (.t 1), some 5, none⟩,
  ⟨.load true 32 (.t 5), some 6, none⟩,
  ⟨.mv (.c (.p (.i .i64 0))), some 7, none⟩])
 (.keep [1, 6, 7] (.block 0 (.loop [1, 6, 7] J0n)))))
 (.keep [] J3Q))
def J29 : AFn := ⟨1, 34, J74, [.tmp 2], false⟩
def J12 : J8q := ⟨1, 8, .reg false [] [⟨.mkarr 3 (.c (.p (.sl 3 []))), some 2, none⟩], [], .reg false [] [⟨.mv (.t 0), some 3, none⟩,
  ⟨.bin .eql .nils (.t 3) (.c (.p (.sl 3 []))), some 4, none⟩], (.t 4),
 .seq (.reg false [] [⟨.mkarr 3 (.c (.p (.sl 3 []))), some 2, none⟩])
 (.ret),
 .skip,
 .seq (.reg false [] [⟨.lits true 3 0 (J7 default) [], some 5, none⟩,
  ⟨.mv (.t 0), some 6, none⟩,
  ⟨.app 3 32 (J7 default) (.t 5) (.t 6), some 7, none⟩,
  ⟨.mv (.t 7), some 2, none⟩])
 (.ret), [.tmp 2], true⟩
def J1E : Jc := .seq (.reg false [] [⟨.box 34 (.t 0), some 1, none⟩,
  ⟨.mv (.c (.p (.b false))), some 2, none⟩])
 (.seq (.reg false [] [⟨.faddr 0 (.t 1), some 3, none⟩,
  ⟨.load false 1 (.t 3), some 4, none⟩,
  ⟨.bin .geq .plain (.t 4) (.c (.p (.i .i64 0))), some 5, none⟩,
  ⟨.mv (.t 5), some 6, none⟩,
  ⟨.faddr 0 (.t 1), some 7, some (6, true)⟩,
  ⟨.load false 1 (.t 7), some 8, some (6, true)⟩,
  ⟨.bin .lss .plain (.t 8) (.c (.p (.i .i64 64))), some 9, some (6, true)⟩,
  ⟨.pick (.t 6) (.t 9) (.c (.p (.b false))), some 10, none⟩,
  ⟨.mv (.t 10), some 11, none⟩,
  ⟨.faddr 1 (.t 1), some 12, some (11, true)⟩,
  ⟨.load false 1 (.t 12), some 13, some (11, true)⟩,
  ⟨.bin .geq .plain (.t 13) (.c (.p (.i .i64 0))), some 14, some (11, true)⟩,
  ⟨.pick (.t 11) (.t 14) (.c (.p (.b false))), some 15, none⟩,
  ⟨.mv (.t 15), some 16, none⟩,
  ⟨.faddr 1 (.t 1), some 17, some (16, true)⟩,
  ⟨.load false 1 (.t 17), some 18, some (16, true)⟩,
  ⟨.bin .leq .plain (.t 18) (.c (.p (.i .i64 1099511627776))), some 19, some (16, true)⟩,
  ⟨.pick (.t 16) (.t 19) (.c (.p (.b false))), some 20, none⟩,
  ⟨.mv (.t 20), some 2, none⟩])
 (.ret))
def J48 : AFn := ⟨1, 21, J1E, [.tmp 2], false⟩
def JiH : Jc := .seq (.seq (.reg false [] [⟨.mv (.t 9), some 32, none⟩,
  ⟨.mv (.t 2), some 33, none⟩,
  ⟨.bin .lss .plain (.t 32) (.t 33), some 34, none⟩])
 (.keep [0, 1, 2, 8, 9, 34] (.cond (.t 34)
 (.skip)
 (.exit 0))))
 (.seq (.block 1 (.reg false [] [⟨.mv (.t 8), some 37, none⟩,
  ⟨.mv (.t 0), some 38, none⟩,
  ⟨.mv (.t 1), some 39, none⟩,
  ⟨.mv (.t 9), some 40, none⟩,
  ⟨.bin .add .plain (.t 39) (.t 40), some 41, none⟩,
  ⟨.sidx (.t 38) (.t 41), some 42, none⟩,
  ⟨.conv (.int .u64) (.t 42), some 43, none⟩,
  ⟨.mv (.t 9), some 44, none⟩,
  ⟨.bin .mul .plain (.c (.p (.i .i64 8))) (.t 44), some 45, none⟩,
  ⟨.conv (.int .u64) (.t 45), some 46, none⟩,
  ⟨.bin .shl .plain (.t 43) (.t 46), some 47, none⟩,
  ⟨.bin .or .plain (.t 37) (.t 47), some 48, none⟩,
  ⟨.mv (.t 48), some 8, none⟩]))
 (.reg false [] [⟨.mv (.t 9), some 35, none⟩,
  ⟨.bin .add .plain (.t 35) (.c (.p (.i .i64 1))), some 36, none⟩,
  ⟨.mv (.t 36), some 9, none⟩]))
def Jjj : Jc := .seq (.reg false [] [⟨.mv (.t 8), some 49, none⟩,
  ⟨.conv (.int .i64) (.t 49), some 50, none⟩,
  ⟨.mv (.t 50), some 6, none⟩,
  ⟨.mv (.c (.p (.i .i64 0))), some 7, none⟩])
 (.ret)
def Jb4 : Jc := .seq (.reg false [] [⟨.mv (.c (.p (.i .i64 0))), some 6, none⟩,
  ⟨.mv (.c (.p (.i .i64 0))), some 7, none⟩])
 (.seq (.seq (.reg false [] [⟨.mv (.t 2), some 10, none⟩,
  ⟨.bin .lss .plain (.t 10) (.c (.p (.i .i64 1))), some 11, none⟩,
  ⟨.mv (.t 11), some 12, none⟩,
  ⟨.mv (.t 2), some 13, some (12, false)⟩,
  ⟨.bin .gtr .plain (.t 13) (.c (.p (.i .i64 8))), some 14, some (12, false)⟩,
  ⟨.pick (.t 12) (.c (.p (.b true))) (.t 14), some 15, none⟩,
  ⟨.mv (.t 15), some 16, none⟩,
  ⟨.mv (.t 1), some 17, some (16, false)⟩,
  ⟨.bin .lss .plain (.t 17) (.c (.p (.i .i64 0))), some 18, some (16, false)⟩,
  ⟨.pick (.t 16) (.c (.p (.b true))) (.t 18), some 19, none⟩])
 (.keep [0, 1, 2, 19] (.cond (.t 19)
 (.seq (.reg false [] [⟨.mv (.c (.p (.i .i64 0))), some 6, none⟩,
   ⟨.mv (.c (.p (.i .i64 1))), some 7, none⟩])
  (.ret))
 (.skip))))
 (.seq (.seq (.reg false [] [⟨.mv (.t 1), some 20, none⟩,
  ⟨.mv (.t 0), some 21, none⟩,
  ⟨.len true (.t 21), some 22, none⟩,
  ⟨.bin .gtr .plain (.t 20) (.t 22), some 23, none⟩,
  ⟨.mv (.t 23), some 24, none⟩,
  ⟨.mv (.t 0), some 25, some (24, false)⟩,
  ⟨.len true (.t 25), some 26, some (24, false)⟩,
  ⟨.mv (.t 1), some 27, some (24, false)⟩,
  ⟨.bin .sub .plain (.t 26) (.t 27), some 28, some (24, false)⟩,
  ⟨.mv (.t 2), some 29, some (24, false)⟩,
  ⟨.bin .lss .plain (.t 28) (.t 29), some 30, some (24, false)⟩,
  ⟨.pick (.t 24) (.c (.p (.b true))) (.t 30), some 31, none⟩])
 (.keep [0, 1, 2, 31] (.cond (.t 31)
 (.seq (.reg false [] [⟨.mv (.c (.p (.i .i64 0))), some 6, none⟩,
   ⟨.mv (.c (.p (.i .i64 5))), some 7, none⟩])
  (.ret))
 (.skip))))
 (.seq (.reg false [] [⟨.mv (.c (.p (.i .u64 0))), some 8, none⟩])
 (.seq (.seq (.reg false [] [⟨.mv (.c (.p (.i .i64 0))), some 9, none⟩])
 (.block 0 (.loop [0, 1, 2, 8, 9] JiH)))
 (.keep [8] Jjj)))))
def JeJ : AFn := ⟨3, 51, Jb4, [.tmp 6, .tmp 7], false⟩
def Jbd : Jc := .seq (.reg false [] [⟨.newbox (J3 default), some 2, none⟩])
 (.seq (.reg false [] [⟨.mv (.t 0), some 3, none⟩,
  ⟨.build (J3 default) [(0, 1, (.t 3))], some 4, none⟩,
  ⟨.store 34 (.t 2) (.t 4), none, none⟩])
 (.ret))
def JeK : AFn := ⟨1, 5, Jbd, [.cell 2 true 34], false⟩
def J65 : Jc := .seq (.reg false [] [⟨.mv (.c (.p (.b false))), some 2, none⟩])
 (.seq (.reg false [] [⟨.mv (.t 0), some 3, none⟩,
  ⟨.bin .geq .plain (.t 3) (.c (.p (.i .i64 0))), some 4, none⟩,
  ⟨.mv (.t 4), some 5, none⟩,
  ⟨.mv (.t 0), some 6, some (5, true)⟩,
  ⟨.bin .lss .plain (.t 6) (.c (.p (.i .i64 64))), some 7, some (5, true)⟩,
  ⟨.pick (.t 5) (.t 7) (.c (.p (.b false))), some 8, none⟩,
  ⟨.mv (.t 8), some 2, none⟩])
 (.ret))
def J60 : AFn := ⟨1, 9, J65, [.tmp 2], false⟩
def J8K : Jc := .seq (.reg false [] [⟨.newbox (J3 default), some 2, none⟩])
 (.seq (.reg false [] [⟨.mv (.t 0), some 3, none⟩,
  ⟨.build (J3 default) [(0, 1, (.t 3))], some 4, none⟩,
  ⟨.store 34 (.t 2) (.t 4), none, none⟩])
 (.ret))
def J7m : AFn := ⟨1, 5, J8K, [.cell 2 true 34], false⟩
def J0C : Jc := .seq (.reg false [] [⟨.bin .lss .plain (.t 9) (.c (.p (.i .i64 4))), some 10, none⟩])
 (.seq (.cond (.t 10)
 (.skip)
 (.exit 2))
 (.seq (.block 3 (.seq (.reg false [] [⟨.mv (.t 3), some 11, none⟩,
  ⟨.bin .and .plain (.t 11) (.c (.p (.i .u32 1))), some 12, none⟩,
  ⟨.bin .eql .plain (.t 12) (.c (.p (.i .u32 1))), some 13, none⟩])
 (.keep [0, 1, 2, 3, 4, 9, 13] (.cond (.t 13)
 (.reg false [] [⟨.mv (.t 3), some 14, none⟩,
   ⟨.bin .shr .plain (.t 14) (.c (.p (.i .u64 1))), some 15, none⟩,
   ⟨.bin .xor .plain (.t 15) (.c (.p (.i .u32 2197175160))), some 16, none⟩,
   ⟨.mv (.t 16), some 3, none⟩])
 (.reg false [] [⟨.mv (.t 3), some 17, none⟩,
   ⟨.bin .shr .plain (.t 17) (.c (.p (.i .u64 1))), some 18, none⟩,
   ⟨.mv (.t 18), some 3, none⟩])))))
 (.reg false [] [⟨.bin .add .plain (.t 9) (.c (.p (.i .i64 1))), some 19, none⟩,
  ⟨.mv (.t 19), some 9, none⟩])))
def J1J : Jc := .reg false [] [⟨.mv (.t 2), some 20, none⟩,
  ⟨.mv (.t 3), some 21, none⟩,
  ⟨.aaddr 16 1 (.t 1) (.t 20), some 22, none⟩,
  ⟨.store 1 (.t 22) (.t 21), none, none⟩]
def J1j : Jc := .reg false [] [⟨.bin .add .plain (.t 4) (.c (.p (.i .i64 1))), some 23, none⟩,
  ⟨.mv (.t 23), some 4, none⟩]
def JX : Jc := .seq (.reg false [] [⟨.bin .lss .plain (.t 4) (.c (.p (.i .i64 16))), some 5, none⟩])
 (.seq (.cond (.t 5)
 (.skip)
 (.exit 0))
 (.seq (.block 1 (.seq (.reg false [] [⟨.mv (.t 4), some 6, none⟩,
  ⟨.mv (.t 6), some 2, none⟩])
 (.seq (.reg false [] [⟨.mv (.t 2), some 7, none⟩,
  ⟨.conv (.int .u32) (.t 7), some 8, none⟩,
  ⟨.mv (.t 8), some 3, none⟩])
 (.keep [0, 1, 2, 3, 4] (.seq (.seq (.reg false [] [⟨.mv (.c (.p (.i .i64 0))), some 9, none⟩])
 (.block 2 (.loop [0, 1, 2, 3, 4, 9] J0C)))
 (.keep [0, 1, 2, 3, 4] J1J))))))
 (.keep [0, 1, 4] J1j)))
def J04 : Jc := .seq (.reg false [] [⟨.load true 16 (.t 1), some 24, none⟩,
  ⟨.store 16 (.t 0) (.t 24), none, none⟩])
 (.ret)
def J3Z : Jc := .seq (.reg false [] [⟨.newbox (JW (r_i .u32) (Vector.replicate 16 (0 : Int))), some 0, none⟩])
 (.seq (.reg false [] [⟨.newbox (JW (r_i .u32) (Vector.replicate 16 (0 : Int))), some 1, none⟩])
 (.seq (.seq (.reg false [] [⟨.mv (.c (.p (.i .i64 0))), some 4, none⟩])
 (.block 0 (.loop [0, 1, 4] JX)))
 (.keep [0, 1] J04)))
def JS : AFn := ⟨0, 25, J3Z, [.cell 0 true 16], false⟩
def J4I : Jc := .seq (.reg false [] [⟨.box 3 (.t 0), some 2, none⟩,
  ⟨.mv (.c (.p (.i .i64 0))), some 4, none⟩])
 (.seq (.reg false [] [⟨.faddr 0 (.t 2), some 5, none⟩,
  ⟨.load false 1 (.t 5), some 6, none⟩,
  ⟨.mv (.t 1), some 7, none⟩,
  ⟨.bin .sub .plain (.t 6) (.t 7), some 8, none⟩,
  ⟨.mv (.t 8), some 4, none⟩])
 (.ret))
def J3N : AFn := ⟨2, 9, J4I, [.tmp 4], false⟩
def J1V : Jc := .seq (.reg false [] [⟨.box 2 (.t 0), some 1, none⟩,
  ⟨.mv (.c (.p (.b false))), some 2, none⟩])
 (.seq (.reg false [] [⟨.faddr 1 (.t 1), some 3, none⟩,
  ⟨.load false 1 (.t 3), some 4, none⟩,
  ⟨.len true (.t 4), some 5, none⟩,
  ⟨.bin .leq .plain (.t 5) (.c (.p (.i .i64 12))), some 6, none⟩,
  ⟨.mv (.t 6), some 7, none⟩,
  ⟨.faddr 0 (.t 1), some 8, some (7, true)⟩,
  ⟨.load false 1 (.t 8), some 9, some (7, true)⟩,
  ⟨.mv (.t 9), some 10, some (7, true)⟩,
  ⟨.faddr 1 (.t 1), some 11, some (10, false)⟩,
  ⟨.load false 1 (.t 11), some 12, some (10, false)⟩,
  ⟨.bin .eql .plain (.t 12) (.c (.p (.s []))), some 13, some (10, false)⟩,
  ⟨.pick (.t 10) (.c (.p (.b true))) (.t 13), some 14, some (7, true)⟩,
  ⟨.pick (.t 7) (.t 14) (.c (.p (.b false))), some 15, none⟩,
  ⟨.mv (.t 15), some 2, none⟩])
 (.ret))
def J3u : AFn := ⟨1, 16, J1V, [.tmp 2], false⟩
def J6u : Jc := .seq (.reg false [] [⟨.mv (.c (.p (.i .i64 0))), some 6, none⟩])
 (.seq (.reg false [] [⟨.mv (.t 0), some 10, none⟩,
  ⟨.mv (.t 1), some 11, none⟩,
  ⟨.mv (.t 2), some 12, none⟩,
  ⟨.call J6E [(.t 10), (.t 11), (.t 12)] 0, some 13, none⟩,
  ⟨.mv (.t 13), some 9, none⟩,
  ⟨.extr (.t 9) 0, some 14, none⟩,
  ⟨.extr (.t 9) 1, some 15, none⟩,
  ⟨.mv (.t 14), some 7, none⟩,
  ⟨.mv (.t 15), some 8, none⟩])
 (.keep [7] (.seq (.reg false [] [⟨.mv (.t 7), some 16, none⟩,
  ⟨.mv (.t 16), some 6, none⟩])
 (.ret))))
def J5g : AFn := ⟨3, 17, J6u, [.tmp 6], false⟩
def J1v : Jc := .seq (.reg false [] [⟨.bin .lss .plain (.t 13) (.c (.p (.i .i64 16))), some 14, none⟩])
 (.seq (.cond (.t 14)
 (.skip)
 (.exit 0))
 (.seq (.block 1 (.seq (.reg false [] [⟨.mv (.t 13), some 15, none⟩,
  ⟨.mv (.t 15), some 5, none⟩])
 (.seq (.reg false [] [⟨.mv (.t 5), some 16, none⟩,
  ⟨.bin .mul .plain (.t 16) (.c (.p (.i .i64 13))), some 17, none⟩,
  ⟨.bin .add .plain (.c (.p (.i .i64 12))) (.t 17), some 18, none⟩,
  ⟨.mv (.t 18), some 6, none⟩])
 (.keep [0, 2, 4, 5, 6, 13] (.seq (.reg false [] [⟨.mv (.t 0), some 19, none⟩,
  ⟨.mv (.t 6), some 20, none⟩,
  ⟨.call J2O [(.t 19), (.t 20), (.c (.p (.i .i64 1)))] 0, some 21, none⟩,
  ⟨.mv (.t 21), some 7, none⟩])
 (.keep [0, 2, 4, 5, 6, 7, 13] (.block 2 (.seq (.reg false [] [⟨.mv (.t 7), some 35, none⟩,
  ⟨.bin .eql .plain (.t 35) (.c (.p (.i .i64 255))), some 36, none⟩,
  ⟨.mv (.t 36), some 34, none⟩])
 (.keep [0, 2, 4, 5, 6, 7, 13, 34] (.cond (.t 34)
 (.skip)
 (.seq (.reg false [] [⟨.mv (.t 7), some 38, none⟩,
   ⟨.bin .gtr .plain (.t 38) (.c (.p (.i .i64 12))), some 39, none⟩,
   ⟨.mv (.t 39), some 37, none⟩])
  (.keep [0, 2, 4, 5, 6, 7, 13, 37] (.cond (.t 37)
  (.seq (.reg false [] [⟨.build (J3 default) [], some 40, none⟩,
    ⟨.store 34 (.t 2) (.t 40), none, none⟩,
    ⟨.mv (.c (.p (.b false))), some 3, none⟩])
   (.ret))
  (.reg false [] [⟨.mv (.t 5), some 22, none⟩,
    ⟨.mv (.t 0), some 23, none⟩,
    ⟨.mv (.t 6), some 24, none⟩,
    ⟨.bin .add .plain (.t 24) (.c (.p (.i .i64 1))), some 25, none⟩,
    ⟨.mv (.t 6), some 26, none⟩,
    ⟨.bin .add .plain (.t 26) (.c (.p (.i .i64 1))), some 27, none⟩,
    ⟨.mv (.t 7), some 28, none⟩,
    ⟨.bin .add .plain (.t 27) (.t 28), some 29, none⟩,
    ⟨.slice .str (.t 23) (some (.t 25)) (some (.t 29)) none, some 30, none⟩,
    ⟨.build (Jb default) [(0, 1, (.c (.p (.b true)))), (1, 1, (.t 30))], some 31, none⟩,
    ⟨.faddr 2 (.t 4), some 32, none⟩,
    ⟨.aaddr 16 2 (.t 32) (.t 22), some 33, none⟩,
    ⟨.store 2 (.t 33) (.t 31), none, none⟩]))))))))))))))
 (.reg false [] [⟨.bin .add .plain (.t 13) (.c (.p (.i .i64 1))), some 41, none⟩,
  ⟨.mv (.t 41), some 13, none⟩])))
def J4d : Jc := .seq (.reg false [] [⟨.load true 34 (.t 4), some 42, none⟩,
  ⟨.store 34 (.t 2) (.t 42), none, none⟩,
  ⟨.mv (.c (.p (.b true))), some 3, none⟩])
 (.ret)
def J7G : Jc := .seq (.reg false [] [⟨.newbox (J3 default), some 2, none⟩,
  ⟨.mv (.c (.p (.b false))), some 3, none⟩])
 (.seq (.reg false [] [⟨.mv (.t 0), some 8, none⟩,
  ⟨.call J2O [(.t 8), (.c (.p (.i .i64 8))), (.c (.p (.i .i64 4)))] 0, some 9, none⟩,
  ⟨.mv (.t 0), some 10, none⟩,
  ⟨.call J2O [(.t 10), (.c (.p (.i .i64 0))), (.c (.p (.i .i64 8)))] 0, some 11, none⟩,
  ⟨.build (J3 default) [(0, 1, (.t 9)), (1, 1, (.t 11))], some 12, none⟩,
  ⟨.newbox (J3 default), some 4, none⟩,
  ⟨.store 34 (.t 4) (.t 12), none, none⟩])
 (.keep [0, 2, 4] (.seq (.seq (.reg false [] [⟨.mv (.c (.p (.i .i64 0))), some 13, none⟩])
 (.block 0 (.loop [0, 2, 4, 13] J1v)))
 (.keep [2, 4] J4d))))
def J2C : AFn := ⟨1, 43, J7G, [.cell 2 true 34, .tmp 3], false⟩
def J1u : Jc := .seq (.seq (.reg false [] [⟨.mv (.t 6), some 23, none⟩,
  ⟨.bin .gtr .plain (.t 23) (.c (.p (.i .i64 0))), some 24, none⟩])
 (.cond (.t 24)
 (.skip)
 (.exit 0)))
 (.seq (.block 1 (.reg false [] [⟨.mv (.t 0), some 27, none⟩,
  ⟨.call Jm [(.t 27), (.c (.p (.i .i64 16)))] 0, some 28, none⟩,
  ⟨.mv (.t 0), some 29, none⟩,
  ⟨.call J3r [(.t 29)] 0, some 30, none⟩,
  ⟨.faddr 2 (.t 5), some 31, none⟩,
  ⟨.aaddr 16 2 (.t 31) (.t 28), some 32, none⟩,
  ⟨.store 2 (.t 32) (.t 30), none, none⟩]))
 (.reg false [] [⟨.mv (.t 6), some 25, none⟩,
  ⟨.bin .sub .plain (.t 25) (.c (.p (.i .i64 1))), some 26, none⟩,
  ⟨.mv (.t 26), some 6, none⟩]))
def J1X : Jc := .seq (.reg false [] [⟨.load true 34 (.t 5), some 33, none⟩,
  ⟨.store 34 (.t 4) (.t 33), none, none⟩])
 (.ret)
def J4O : Jc := .seq (.seq (.reg false [] [⟨.faddr 1 (.t 5), some 18, none⟩,
  ⟨.load false 1 (.t 18), some 19, none⟩,
  ⟨.bin .gtr .plain (.t 19) (.c (.p (.i .i64 0))), some 20, none⟩])
 (.keep [0, 4, 5, 20] (.cond (.t 20)
 (.seq (.reg false [] [⟨.mv (.t 0), some 21, none⟩,
   ⟨.call Jm [(.t 21), (.c (.p (.i .i64 6)))] 0, some 22, none⟩,
   ⟨.mv (.t 22), some 6, none⟩])
  (.keep [0, 4, 5, 6] (.block 0 (.loop [0, 4, 5, 6] J1u))))
 (.skip))))
 (.keep [4, 5] J1X)
def J2i : Jc := .seq (.reg false [] [⟨.newbox (J3 default), some 4, none⟩])
 (.seq (.reg false [] [⟨.mv (.t 1), some 7, none⟩,
  ⟨.mv (.t 0), some 8, none⟩,
  ⟨.call Jm [(.t 8), (.c (.p (.i .i64 50)))] 0, some 9, none⟩,
  ⟨.build (J3 default) [(0, 1, (.t 7)), (1, 1, (.t 9))], some 10, none⟩,
  ⟨.newbox (J3 default), some 5, none⟩,
  ⟨.store 34 (.t 5) (.t 10), none, none⟩])
 (.keep [0, 4, 5] (.seq (.seq (.reg false [] [⟨.mv (.t 0), some 11, none⟩,
  ⟨.call Jm [(.t 11), (.c (.p (.i .i64 10)))] 0, some 12, none⟩,
  ⟨.bin .eql .plain (.t 12) (.c (.p (.i .i64 9))), some 13, none⟩])
 (.keep [0, 4, 5, 13] (.cond (.t 13)
 (.reg false [] [⟨.mv (.t 0), some 14, none⟩,
   ⟨.call Jm [(.t 14), (.c (.p (.i .i64 2)))] 0, some 15, none⟩,
   ⟨.bin .sub .plain (.c (.p (.i .i64 1099511627776))) (.t 15), some 16, none⟩,
   ⟨.faddr 1 (.t 5), some 17, none⟩,
   ⟨.store 1 (.t 17) (.t 16), none, none⟩])
 (.skip))))
 (.keep [0, 4, 5] J4O))))
def J0v : AFn := ⟨2, 34, J2i, [.cell 4 true 34], false⟩
def J9i : Jc := .seq (.reg false [] [⟨.mv (.c (.p (.s []))), some 0, none⟩])
 (.seq (.reg false [] [⟨.call J2T [(.c (.p (.i .i64 256)))] 0, some 1, none⟩,
  ⟨.mv (.t 1), some 0, none⟩])
 (.ret))
def JcP : AFn := ⟨0, 2, J9i, [.tmp 0], false⟩
def J78 : Jc := .seq (.reg false [] [⟨.mv (.c (.p (.s []))), some 0, none⟩])
 (.seq (.reg false [] [⟨.call J1L [(.c (.p (.s [0]))), (.c (.p (.i .i64 256)))] 0, some 1, none⟩,
  ⟨.mv (.t 1), some 0, none⟩])
 (.ret))
def J5U : AFn := ⟨0, 2, J78, [.tmp 0], false⟩
def J2Q : Jc := .seq (.reg false [] [⟨.box 34 (.t 0), some 1, none⟩,
  ⟨.mv (.c (.p (.b false))), some 2, none⟩])
 (.seq (.reg false [] [⟨.faddr 0 (.t 1), some 3, none⟩,
  ⟨.load false 1 (.t 3), some 4, none⟩,
  ⟨.call J4J [(.t 4)] 0, some 5, none⟩,
  ⟨.mv (.t 5), some 6, none⟩,
  ⟨.faddr 1 (.t 1), some 7, some (6, true)⟩,
  ⟨.load false 1 (.t 7), some 8, some (6, true)⟩,
  ⟨.bin .geq .plain (.t 8) (.c (.p (.i .i64 0))), some 9, some (6, true)⟩,
  ⟨.pick (.t 6) (.t 9) (.c (.p (.b false))), some 10, none⟩,
  ⟨.mv (.t 10), some 11, none⟩,
  ⟨.faddr 1 (.t 1), some 12, some (11, true)⟩,
  ⟨.load false 1 (.t 12), some 13, some (11, true)⟩,
  ⟨.bin .leq .plain (.t 13) (.c (.p (.i .i64 1099511627776))), some 14, some (11, true)⟩,
  ⟨.pick (.t 11) (.t 14) (.c (.p (.b false))), some 15, none⟩,
  ⟨.mv (.t 15), some 2, none⟩])
 (.ret))
def J5k : AFn := ⟨1, 16, J2Q, [.tmp 2], false⟩
def J5W : Jc := .reg true [(6, 8), (6, 11), (8, 14)] [⟨.mv (.t 0), some 10, none⟩,
  ⟨.mv (.t 0), some 11, none⟩,
  ⟨.nilchk (.t 11), some 12, none⟩,
  ⟨.faddr 0 (.t 12), some 13, none⟩,
  ⟨.load false 1 (.t 13), some 14, none⟩,
  ⟨.mv (.t 4), some 15, none⟩,
  ⟨.call J17 [(.t 14), (.t 15), (.c (.p (.i .i64 1)))] 0, some 16, none⟩,
  ⟨.faddr 1 (.t 3), some 17, none⟩,
  ⟨.load false 1 (.t 17), some 18, none⟩,
  ⟨.bin .add .plain (.t 16) (.t 18), some 19, none⟩,
  ⟨.faddr 1 (.t 3), some 20, none⟩,
  ⟨.load false 1 (.t 20), some 21, none⟩,
  ⟨.len true (.t 21), some 22, none⟩,
  ⟨.bin .sub .plain (.c (.p (.i .i64 12))) (.t 22), some 23, none⟩,
  ⟨.call J1L [(.c (.p (.s [0]))), (.t 23)] 0, some 24, none⟩,
  ⟨.bin .add .plain (.t 19) (.t 24), some 25, none⟩,
  ⟨.nilchk (.t 10), some 26, none⟩,
  ⟨.faddr 0 (.t 26), some 27, none⟩,
  ⟨.store 1 (.t 27) (.t 25), none, none⟩]
def J2x : Jc := .seq (.reg false [] [⟨.box 2 (.t 1), some 3, none⟩])
 (.seq (.reg false [] [⟨.mv (.c (.p (.i .i64 255))), some 4, none⟩])
 (.seq (.seq (.reg false [] [⟨.faddr 0 (.t 3), some 5, none⟩,
  ⟨.load false 1 (.t 5), some 6, none⟩])
 (.cond (.t 6)
 (.reg false [] [⟨.faddr 1 (.t 3), some 7, none⟩,
   ⟨.load false 1 (.t 7), some 8, none⟩,
   ⟨.len true (.t 8), some 9, none⟩,
   ⟨.mv (.t 9), some 4, none⟩])
 (.skip)))
 (.keep [0, 3, 4] J5W)))
def J1W : AFn := ⟨2, 28, J2x, [], false⟩
def J3A : Jc := .seq (.reg false [] [⟨.bin .lss .plain (.t 9) (.t 8), some 10, none⟩])
 (.seq (.cond (.t 10)
 (.skip)
 (.exit 0))
 (.seq (.block 1 (.seq (.reg false [] [⟨.mv (.t 9), some 11, none⟩,
  ⟨.mv (.t 11), some 5, none⟩])
 (.seq (.reg false [] [⟨.mv (.t 4), some 12, none⟩,
  ⟨.mv (.t 0), some 13, none⟩,
  ⟨.mv (.t 5), some 14, none⟩,
  ⟨.sidx (.t 13) (.t 14), some 15, none⟩,
  ⟨.conv (.int .u32) (.t 15), some 16, none⟩,
  ⟨.bin .xor .plain (.t 12) (.t 16), some 17, none⟩,
  ⟨.mv (.t 17), some 4, none⟩])
 (.keep [0, 3, 4, 8, 9] (.seq (.reg false [] [⟨.mv (.t 4), some 18, none⟩,
  ⟨.bin .shr .plain (.t 18) (.c (.p (.i .u64 4))), some 19, none⟩,
  ⟨.mv (.t 4), some 20, none⟩,
  ⟨.bin .and .plain (.t 20) (.c (.p (.i .u32 15))), some 21, none⟩,
  ⟨.aaddr 16 1 (.t 3) (.t 21), some 22, none⟩,
  ⟨.load false 1 (.t 22), some 23, none⟩,
  ⟨.bin .xor .plain (.t 19) (.t 23), some 24, none⟩,
  ⟨.mv (.t 24), some 4, none⟩])
 (.keep [0, 3, 4, 8, 9] (.reg false [] [⟨.mv (.t 4), some 25, none⟩,
  ⟨.bin .shr .plain (.t 25) (.c (.p (.i .u64 4))), some 26, none⟩,
  ⟨.mv (.t 4), some 27, none⟩,
  ⟨.bin .and .plain (.t 27) (.c (.p (.i .u32 15))), some 28, none⟩,
  ⟨.aaddr 16 1 (.t 3) (.t 28), some 29, none⟩,
  ⟨.load false 1 (.t 29), some 30, none⟩,
  ⟨.bin .xor .plain (.t 26) (.t 30), some 31, none⟩,
  ⟨.mv (.t 31), some 4, none⟩])))))))
 (.reg false [] [⟨.bin .add .plain (.t 9) (.c (.p (.i .i64 1))), some 32, none⟩,
  ⟨.mv (.t 32), some 9, none⟩])))
def J4o : Jc := .seq (.reg false [] [⟨.mv (.t 4), some 33, none⟩,
  ⟨.un .xor (.t 33), some 34, none⟩,
  ⟨.mv (.t 34), some 2, none⟩])
 (.ret)
def J7A : Jc := .seq (.reg false [] [⟨.mv (.c (.p (.i .u32 0))), some 2, none⟩])
 (.seq (.reg false [] [⟨.call J2X [] 0, some 6, none⟩,
  ⟨.newbox (JW (r_i .u32) (Vector.replicate 16 (0 : Int))), some 3, none⟩,
  ⟨.store 16 (.t 3) (.t 6), none, none⟩])
 (.keep [0, 3] (.seq (.reg false [] [⟨.mv (.c (.p (.i .u32 4294967295))), some 4, none⟩])
 (.seq (.seq (.reg false [] [⟨.mv (.t 0), some 7, none⟩,
  ⟨.len true (.t 7), some 8, none⟩,
  ⟨.mv (.c (.p (.i .i64 0))), some 9, none⟩])
 (.keep [0, 3, 4, 8, 9] (.block 0 (.loop [0, 3, 4, 8, 9] J3A))))
 (.keep [4] J4o)))))
def J2H : AFn := ⟨1, 35, J7A, [.tmp 2], false⟩
def Jp : Jc := .seq (.seq (.reg false [] [⟨.mv (.t 9), some 15, none⟩,
  ⟨.mv (.t 10), some 16, none⟩,
  ⟨.bin .lss .plain (.t 15) (.t 16), some 17, none⟩])
 (.keep [0, 1, 2, 8, 9, 10, 17] (.cond (.t 17)
 (.skip)
 (.exit 0))))
 (.block 1 (.seq (.reg false [] [⟨.mv (.t 9), some 18, none⟩,
  ⟨.mv (.t 10), some 19, none⟩,
  ⟨.bin .add .plain (.t 18) (.t 19), some 20, none⟩,
  ⟨.conv (.int .u64) (.t 20), some 21, none⟩,
  ⟨.bin .shr .plain (.t 21) (.c (.p (.i .u64 1))), some 22, none⟩,
  ⟨.conv (.int .i64) (.t 22), some 23, none⟩,
  ⟨.mv (.t 23), some 11, none⟩])
 (.keep [0, 1, 2, 8, 9, 10, 11] (.seq (.reg false [] [⟨.mv (.t 2), some 24, none⟩,
  ⟨.mv (.t 0), some 25, none⟩,
  ⟨.mv (.t 11), some 26, none⟩,
  ⟨.iaddr 3 (.t 25) (.t 26), some 27, none⟩,
  ⟨.load true 3 (.t 27), some 28, none⟩,
  ⟨.mv (.t 1), some 29, none⟩,
  ⟨.callv (.t 24) [(.t 28), (.t 29)] 0, some 30, none⟩,
  ⟨.bin .lss .plain (.t 30) (.c (.p (.i .i64 0))), some 31, none⟩])
 (.keep [0, 1, 2, 8, 9, 10, 11, 31] (.cond (.t 31)
 (.reg false [] [⟨.mv (.t 11), some 32, none⟩,
   ⟨.bin .add .plain (.t 32) (.c (.p (.i .i64 1))), some 33, none⟩,
   ⟨.mv (.t 33), some 9, none⟩])
 (.reg false [] [⟨.mv (.t 11), some 34, none⟩,
   ⟨.mv (.t 34), some 10, none⟩])))))))
def JA : Jc := .seq (.reg false [] [⟨.mv (.t 9), some 35, none⟩,
  ⟨.mv (.t 9), some 36, none⟩,
  ⟨.mv (.t 8), some 37, none⟩,
  ⟨.bin .lss .plain (.t 36) (.t 37), some 38, none⟩,
  ⟨.mv (.t 38), some 39, none⟩,
  ⟨.mv (.t 2), some 40, some (39, true)⟩,
  ⟨.mv (.t 0), some 41, some (39, true)⟩,
  ⟨.mv (.t 9), some 42, some (39, true)⟩,
  ⟨.iaddr 3 (.t 41) (.t 42), some 43, some (39, true)⟩,
  ⟨.load true 3 (.t 43), some 44, some (39, true)⟩,
  ⟨.mv (.t 1), some 45, some (39, true)⟩,
  ⟨.callv (.t 40) [(.t 44), (.t 45)] 0, some 46, some (39, true)⟩,
  ⟨.bin .eql .plain (.t 46) (.c (.p (.i .i64 0))), some 47, some (39, true)⟩,
  ⟨.pick (.t 39) (.t 47) (.c (.p (.b false))), some 48, none⟩,
  ⟨.mv (.t 35), some 6, none⟩,
  ⟨.mv (.t 48), some 7, none⟩])
 (.ret)
def J03 : Jc := .seq (.reg false [] [⟨.mv (.c (.p (.i .i64 0))), some 6, none⟩,
  ⟨.mv (.c (.p (.b false))), some 7, none⟩])
 (.seq (.reg false [] [⟨.mv (.t 0), some 12, none⟩,
  ⟨.len false (.t 12), some 13, none⟩,
  ⟨.mv (.t 13), some 8, none⟩])
 (.keep [0, 1, 2, 8] (.seq (.reg false [] [⟨.mv (.t 8), some 14, none⟩,
  ⟨.mv (.c (.p (.i .i64 0))), some 9, none⟩,
  ⟨.mv (.t 14), some 10, none⟩])
 (.keep [0, 1, 2, 8, 9, 10] (.seq (.block 0 (.loop [0, 1, 2, 8, 9, 10] Jp))
 (.keep [0, 1, 2, 8, 9] JA))))))
def Jl : AFn := ⟨3, 49, J03, [.tmp 6, .tmp 7], false⟩
def J6s : Jc := .seq (.reg false [] [⟨.box 3 (.t 0), some 2, none⟩,
  ⟨.mv (.c (.p (.i .i64 0))), some 4, none⟩,
  ⟨.mv (.c (.p (.b false))), some 5, none⟩])
 (.keep [1, 2] (.seq (.reg false [] [⟨.faddr 2 (.t 2), some 6, none⟩,
  ⟨.load false 1 (.t 6), some 7, none⟩,
  ⟨.mv (.t 1), some 8, none⟩,
  ⟨.call JP [(.t 7), (.t 8), (.c (.fn J0b [] []))] 0, some 9, none⟩,
  ⟨.extr (.t 9) 0, some 10, none⟩,
  ⟨.extr (.t 9) 1, some 11, none⟩,
  ⟨.mv (.t 10), some 4, none⟩,
  ⟨.mv (.t 11), some 5, none⟩])
 (.ret)))
def J5j : AFn := ⟨2, 12, J6s, [.tmp 4, .tmp 5], false⟩
def J0r : Jc := .seq (.seq (.reg false [] [⟨.mv (.t 3), some 4, none⟩,
  ⟨.bin .lss .plain (.t 4) (.c (.p (.i .i64 16))), some 5, none⟩])
 (.cond (.t 5)
 (.skip)
 (.exit 0)))
 (.seq (.block 1 (.seq (.reg false [] [⟨.mv (.t 3), some 8, none⟩,
  ⟨.faddr 2 (.t 1), some 9, none⟩,
  ⟨.aaddr 16 2 (.t 9) (.t 8), some 10, none⟩,
  ⟨.load true 2 (.t 10), some 11, none⟩,
  ⟨.call J3o [(.t 11)] 0, some 12, none⟩,
  ⟨.un .not (.t 12), some 13, none⟩,
  ⟨.mv (.t 13), some 14, none⟩,
  ⟨.faddr 1 (.t 1), some 15, some (14, false)⟩,
  ⟨.load false 1 (.t 15), some 16, some (14, false)⟩,
  ⟨.bin .eql .plain (.t 16) (.c (.p (.i .i64 0))), some 17, some (14, false)⟩,
  ⟨.mv (.t 17), some 18, some (14, false)⟩,
  ⟨.mv (.t 3), some 19, some (18, true)⟩,
  ⟨.faddr 2 (.t 1), some 20, some (18, true)⟩,
  ⟨.aaddr 16 2 (.t 20) (.t 19), some 21, some (18, true)⟩,
  ⟨.faddr 0 (.t 21), some 22, some (18, true)⟩,
  ⟨.load false 1 (.t 22), some 23, some (18, true)⟩,
  ⟨.pick (.t 18) (.t 23) (.c (.p (.b false))), some 24, some (14, false)⟩,
  ⟨.pick (.t 14) (.c (.p (.b true))) (.t 24), some 25, none⟩])
 (.keep [1, 3, 25] (.cond (.t 25)
 (.seq (.reg false [] [⟨.mv (.c (.p (.b false))), some 2, none⟩])
  (.ret))
 (.skip)))))
 (.reg false [] [⟨.mv (.t 3), some 6, none⟩,
  ⟨.bin .add .plain (.t 6) (.c (.p (.i .i64 1))), some 7, none⟩,
  ⟨.mv (.t 7), some 3, none⟩]))
def J37 : Jc := .seq (.reg false [] [⟨.mv (.c (.p (.b true))), some 2, none⟩])
 (.ret)
def J6v : Jc := .seq (.reg false [] [⟨.box 34 (.t 0), some 1, none⟩,
  ⟨.mv (.c (.p (.b false))), some 2, none⟩])
 (.seq (.seq (.reg false [] [⟨.mv (.c (.p (.i .i64 0))), some 3, none⟩])
 (.block 0 (.loop [1, 3] J0r)))
 (.keep [] J37))
def J1Q : AFn := ⟨1, 26, J6v, [.tmp 2], false⟩
def J2r : Jc := .seq (.reg false [] [⟨.bin .lss .plain (.t 29) (.c (.p (.i .i64 16))), some 30, none⟩])
 (.seq (.cond (.t 30)
 (.skip)
 (.exit 1))
 (.seq (.block 2 (.seq (.reg false [] [⟨.aidx true 16 2 (.t 28) (.t 29), some 31, none⟩,
  ⟨.newbox (Jb default), some 7, none⟩,
  ⟨.store 2 (.t 7) (.t 31), none, none⟩])
 (.keep [1, 4, 5, 7, 28, 29] (.reg false [] [⟨.mv (.t 5), some 32, none⟩,
  ⟨.load true 2 (.t 7), some 33, none⟩,
  ⟨.callv (.t 32) [(.t 33)] 0, some 34, none⟩]))))
 (.reg false [] [⟨.bin .add .plain (.t 29) (.c (.p (.i .i64 1))), some 35, none⟩,
  ⟨.mv (.t 35), some 29, none⟩])))
def J3b : Jc := .seq (.reg true [(3, 10)] [⟨.mv (.t 4), some 36, none⟩,
  ⟨.nilchk (.t 36), some 37, none⟩,
  ⟨.faddr 0 (.t 37), some 38, none⟩,
  ⟨.load false 1 (.t 38), some 39, none⟩,
  ⟨.mv (.t 4), some 40, none⟩,
  ⟨.nilchk (.t 40), some 41, none⟩,
  ⟨.faddr 0 (.t 41), some 42, none⟩,
  ⟨.load false 1 (.t 42), some 43, none⟩,
  ⟨.len true (.t 43), some 44, none⟩,
  ⟨.bin .sub .plain (.c (.p (.i .i64 244))) (.t 44), some 45, none⟩,
  ⟨.call J1L [(.c (.p (.s [0]))), (.t 45)] 0, some 46, none⟩,
  ⟨.bin .add .plain (.t 39) (.t 46), some 47, none⟩,
  ⟨.mv (.t 47), some 8, none⟩])
 (.keep [1, 8] (.seq (.reg true [(2, 6), (4, 6)] [⟨.mv (.t 8), some 48, none⟩,
  ⟨.mv (.t 8), some 49, none⟩,
  ⟨.call J3U [(.t 49)] 0, some 50, none⟩,
  ⟨.conv (.int .i64) (.t 50), some 51, none⟩,
  ⟨.call J17 [(.t 48), (.t 51), (.c (.p (.i .i64 4)))] 0, some 52, none⟩,
  ⟨.faddr 1 (.t 1), some 53, none⟩,
  ⟨.load false 1 (.t 53), some 54, none⟩,
  ⟨.call J17 [(.t 52), (.t 54), (.c (.p (.i .i64 8)))] 0, some 55, none⟩,
  ⟨.mv (.t 55), some 2, none⟩,
  ⟨.mv (.c (.p (.i .i64 0))), some 3, none⟩])
 (.ret)))
def J2L : Jc := .seq (.reg false [] [⟨.box 34 (.t 0), some 1, none⟩,
  ⟨.mv (.c (.p (.s []))), some 2, none⟩,
  ⟨.mv (.c (.p (.i .i64 0))), some 3, none⟩])
 (.keep [1] (.seq (.block 0 (.seq (.reg false [] [⟨.load true 34 (.t 1), some 10, none⟩,
  ⟨.call J56 [(.t 10)] 0, some 11, none⟩,
  ⟨.un .not (.t 11), some 12, none⟩,
  ⟨.mv (.t 12), some 9, none⟩])
 (.keep [1, 9] (.cond (.t 9)
 (.seq (.reg false [] [⟨.mv (.c (.p (.s []))), some 2, none⟩,
   ⟨.mv (.c (.p (.i .i64 1))), some 3, none⟩])
  (.ret))
 (.seq (.reg false [] [⟨.load true 34 (.t 1), some 14, none⟩,
   ⟨.call J5S [(.t 14)] 0, some 15, none⟩,
   ⟨.un .not (.t 15), some 16, none⟩,
   ⟨.mv (.t 16), some 13, none⟩])
  (.keep [1, 13] (.cond (.t 13)
  (.seq (.reg false [] [⟨.mv (.c (.p (.s []))), some 2, none⟩,
    ⟨.mv (.c (.p (.i .i64 22))), some 3, none⟩])
   (.ret))
  (.skip))))))))
 (.seq (.reg true [(2, 4)] [⟨.faddr 1 (.t 1), some 17, none⟩,
  ⟨.load false 1 (.t 17), some 18, none⟩,
  ⟨.call J17 [(.c (.p (.s []))), (.t 18), (.c (.p (.i .i64 8)))] 0, some 19, none⟩,
  ⟨.faddr 0 (.t 1), some 20, none⟩,
  ⟨.load false 1 (.t 20), some 21, none⟩,
  ⟨.call J17 [(.t 19), (.t 21), (.c (.p (.i .i64 4)))] 0, some 22, none⟩,
  ⟨.build (J0t default) [(0, 1, (.t 22))], some 23, none⟩,
  ⟨.box 1 (.t 23), some 24, none⟩,
  ⟨.mv (.t 24), some 4, none⟩])
 (.keep [1, 4] (.seq (.reg false [] [⟨.mv (.t 4), some 25, none⟩,
  ⟨.mkfn J0J [(.t 25)] [], some 26, none⟩,
  ⟨.mv (.t 26), some 5, none⟩])
 (.keep [1, 4, 5] (.seq (.tidy [1, 2, 3, 4] (.seq (.reg false [] [⟨.faddr 2 (.t 1), some 27, none⟩,
  ⟨.load true 32 (.t 27), some 28, none⟩,
  ⟨.mv (.c (.p (.i .i64 0))), some 29, none⟩])
 (.keep [1, 4, 5, 28, 29] (.block 1 (.loop [1, 4, 5, 28, 29] J2r)))))
 (.keep [1, 4] J3b))))))))
def J1S : AFn := ⟨1, 56, J2L, [.tmp 2, .tmp 3], false⟩
def J5e : Jc := .seq (.reg false [] [⟨.mv (.c (.p (.s []))), some 2, none⟩])
 (.seq (.seq (.reg false [] [⟨.mv (.t 0), some 4, none⟩,
  ⟨.len true (.t 4), some 5, none⟩,
  ⟨.bin .gtr .plain (.t 5) (.c (.p (.i .i64 8392))), some 6, none⟩])
 (.keep [0, 6] (.cond (.t 6)
 (.seq (.reg false [] [⟨.mv (.c (.p (.s []))), some 2, none⟩])
  (.ret))
 (.skip))))
 (.seq (.reg false [] [⟨.mv (.t 0), some 7, none⟩,
  ⟨.len true (.t 7), some 8, none⟩,
  ⟨.call J17 [(.c (.p (.s []))), (.t 8), (.c (.p (.i .i64 4)))] 0, some 9, none⟩,
  ⟨.mv (.t 0), some 10, none⟩,
  ⟨.bin .add .plain (.t 9) (.t 10), some 11, none⟩,
  ⟨.mv (.t 11), some 3, none⟩])
 (.keep [3] (.seq (.reg false [] [⟨.mv (.t 3), some 12, none⟩,
  ⟨.mv (.t 3), some 13, none⟩,
  ⟨.call J3U [(.t 13)] 0, some 14, none⟩,
  ⟨.conv (.int .i64) (.t 14), some 15, none⟩,
  ⟨.call J17 [(.t 12), (.t 15), (.c (.p (.i .i64 4)))] 0, some 16, none⟩,
  ⟨.mv (.t 16), some 2, none⟩])
 (.ret)))))
def J5h : AFn := ⟨1, 17, J5e, [.tmp 2], false⟩
def J2I : Jc := .seq (.reg false [] [⟨.box 34 (.t 0), some 1, none⟩,
  ⟨.mv (.c (.p (.i .i64 0))), some 2, none⟩])
 (.seq (.block 0 (.seq (.reg false [] [⟨.load true 34 (.t 1), some 4, none⟩,
  ⟨.call J44 [(.t 4)] 0, some 5, none⟩,
  ⟨.un .not (.t 5), some 6, none⟩,
  ⟨.mv (.t 6), some 3, none⟩])
 (.keep [1, 3] (.cond (.t 3)
 (.seq (.reg false [] [⟨.mv (.c (.p (.i .i64 1))), some 2, none⟩])
  (.ret))
 (.seq (.reg false [] [⟨.load true 34 (.t 1), some 8, none⟩,
   ⟨.call J53 [(.t 8)] 0, some 9, none⟩,
   ⟨.un .not (.t 9), some 10, none⟩,
   ⟨.mv (.t 10), some 7, none⟩])
  (.keep [7] (.cond (.t 7)
  (.seq (.reg false [] [⟨.mv (.c (.p (.i .i64 22))), some 2, none⟩])
   (.ret))
  (.skip))))))))
 (.seq (.reg false [] [⟨.mv (.c (.p (.i .i64 0))), some 2, none⟩])
 (.ret)))
def J51 : AFn := ⟨1, 11, J2I, [.tmp 2], false⟩
def J0g : Jc := .seq (.reg false [] [⟨.newbox (J3 default), some 2, none⟩,
  ⟨.mv (.c (.p (.i .i64 0))), some 3, none⟩])
 (.seq (.block 0 (.seq (.reg false [] [⟨.mv (.t 0), some 9, none⟩,
  ⟨.len true (.t 9), some 10, none⟩,
  ⟨.bin .neq .plain (.t 10) (.c (.p (.i .i64 256))), some 11, none⟩,
  ⟨.mv (.t 11), some 8, none⟩])
 (.keep [0, 2, 8] (.cond (.t 8)
 (.seq (.reg false [] [⟨.build (J3 default) [], some 12, none⟩,
   ⟨.store 34 (.t 2) (.t 12), none, none⟩,
   ⟨.mv (.c (.p (.i .i64 2))), some 3, none⟩])
  (.ret))
 (.seq (.reg false [] [⟨.mv (.t 0), some 14, none⟩,
   ⟨.call J68 [] 0, some 15, none⟩,
   ⟨.bin .eql .plain (.t 14) (.t 15), some 16, none⟩,
   ⟨.mv (.t 16), some 13, none⟩])
  (.keep [0, 2, 13] (.cond (.t 13)
  (.seq (.reg false [] [⟨.build (J3 default) [], some 17, none⟩,
    ⟨.store 34 (.t 2) (.t 17), none, none⟩,
    ⟨.mv (.c (.p (.i .i64 7))), some 3, none⟩])
   (.ret))
  (.seq (.reg true [] [⟨.mv (.t 0), some 19, none⟩,
    ⟨.slice .str (.t 19) none (some (.c (.p (.i .i64 8)))) none, some 20, none⟩,
    ⟨.mv (.t 0), some 21, none⟩,
    ⟨.slice .str (.t 21) (some (.c (.p (.i .i64 248)))) none none, some 22, none⟩,
    ⟨.bin .neq .plain (.t 20) (.t 22), some 23, none⟩,
    ⟨.mv (.t 23), some 18, none⟩])
   (.keep [0, 2, 18] (.cond (.t 18)
   (.seq (.reg false [] [⟨.build (J3 default) [], some 24, none⟩,
     ⟨.store 34 (.t 2) (.t 24), none, none⟩,
     ⟨.mv (.c (.p (.i .i64 27))), some 3, none⟩])
    (.ret))
   (.seq (.reg true [] [⟨.mv (.t 0), some 26, none⟩,
     ⟨.call J2O [(.t 26), (.c (.p (.i .i64 244))), (.c (.p (.i .i64 4)))] 0, some 27, none⟩,
     ⟨.mv (.t 0), some 28, none⟩,
     ⟨.slice .str (.t 28) none (some (.c (.p (.i .i64 244)))) none, some 29, none⟩,
     ⟨.call J3U [(.t 29)] 0, some 30, none⟩,
     ⟨.conv (.int .i64) (.t 30), some 31, none⟩,
     ⟨.bin .neq .plain (.t 27) (.t 31), some 32, none⟩,
     ⟨.mv (.t 32), some 25, none⟩])
    (.keep [0, 2, 25] (.cond (.t 25)
    (.seq (.reg false [] [⟨.build (J3 default) [], some 33, none⟩,
      ⟨.store 34 (.t 2) (.t 33), none, none⟩,
      ⟨.mv (.c (.p (.i .i64 3))), some 3, none⟩])
     (.ret))
    (.skip))))))))))))))
 (.seq (.reg false [] [⟨.mv (.t 0), some 35, none⟩,
  ⟨.call J6B [(.t 35)] 0, some 36, none⟩,
  ⟨.mv (.t 36), some 34, none⟩,
  ⟨.extr (.t 34) 0, some 37, none⟩,
  ⟨.extr (.t 34) 1, some 38, none⟩,
  ⟨.newbox (J3 default), some 4, none⟩,
  ⟨.store 34 (.t 4) (.t 37), none, none⟩,
  ⟨.mv (.t 38), some 5, none⟩])
 (.keep [0, 2, 4, 5] (.seq (.seq (.reg false [] [⟨.load true 34 (.t 4), some 40, none⟩,
  ⟨.call J55 [(.t 40)] 0, some 41, none⟩,
  ⟨.mv (.t 41), some 39, none⟩,
  ⟨.extr (.t 39) 0, some 42, none⟩,
  ⟨.extr (.t 39) 1, some 43, none⟩,
  ⟨.mv (.t 42), some 6, none⟩,
  ⟨.mv (.t 43), some 7, none⟩])
 (.keep [0, 2, 4, 5, 6, 7] (.seq (.reg false [] [⟨.mv (.t 5), some 44, none⟩,
  ⟨.un .not (.t 44), some 45, none⟩,
  ⟨.mv (.t 45), some 46, none⟩,
  ⟨.mv (.t 7), some 47, some (46, false)⟩,
  ⟨.bin .neq .plain (.t 47) (.c (.p (.i .i64 0))), some 48, some (46, false)⟩,
  ⟨.pick (.t 46) (.c (.p (.b true))) (.t 48), some 49, none⟩,
  ⟨.mv (.t 49), some 50, none⟩,
  ⟨.mv (.t 6), some 51, some (50, false)⟩,
  ⟨.mv (.t 0), some 52, some (50, false)⟩,
  ⟨.bin .neq .plain (.t 51) (.t 52), some 53, some (50, false)⟩,
  ⟨.pick (.t 50) (.c (.p (.b true))) (.t 53), some 54, none⟩])
 (.keep [2, 4, 54] (.cond (.t 54)
 (.seq (.reg false [] [⟨.build (J3 default) [], some 55, none⟩,
   ⟨.store 34 (.t 2) (.t 55), none, none⟩,
   ⟨.mv (.c (.p (.i .i64 4))), some 3, none⟩])
  (.ret))
 (.skip))))))
 (.seq (.reg false [] [⟨.load true 34 (.t 4), some 56, none⟩,
  ⟨.store 34 (.t 2) (.t 56), none, none⟩,
  ⟨.mv (.c (.p (.i .i64 0))), some 3, none⟩])
 (.ret))))))
def J54 : AFn := ⟨1, 57, J0g, [.cell 2 true 34, .tmp 3], false⟩
def J80 : Jc := .seq (.reg false [] [⟨.mv (.t 5), some 35, none⟩,
  ⟨.mv (.t 7), some 36, none⟩,
  ⟨.call J35 [(.t 35), (.t 36), (.c (.p (.i .i64 1)))] 0, some 37, none⟩,
  ⟨.mv (.t 37), some 5, none⟩])
 (.keep [1, 5, 6] (.reg true [(5, 13)] [⟨.mv (.t 5), some 38, none⟩,
  ⟨.mv (.t 6), some 39, none⟩,
  ⟨.faddr 2 (.t 1), some 40, none⟩,
  ⟨.aaddr 16 2 (.t 40) (.t 39), some 41, none⟩,
  ⟨.faddr 1 (.t 41), some 42, none⟩,
  ⟨.load false 1 (.t 42), some 43, none⟩,
  ⟨.mv (.t 6), some 44, none⟩,
  ⟨.faddr 2 (.t 1), some 45, none⟩,
  ⟨.aaddr 16 2 (.t 45) (.t 44), some 46, none⟩,
  ⟨.faddr 1 (.t 46), some 47, none⟩,
  ⟨.load false 1 (.t 47), some 48, none⟩,
  ⟨.len true (.t 48), some 49, none⟩,
  ⟨.bin .sub .plain (.c (.p (.i .i64 12))) (.t 49), some 50, none⟩,
  ⟨.call J2T [(.t 50)] 0, some 51, none⟩,
  ⟨.bin .add .plain (.t 43) (.t 51), some 52, none⟩,
  ⟨.bin .add .plain (.t 38) (.t 52), some 53, none⟩,
  ⟨.mv (.t 53), some 5, none⟩]))
def J6k : Jc := .reg false [] [⟨.mv (.t 6), some 22, none⟩,
  ⟨.bin .add .plain (.t 22) (.c (.p (.i .i64 1))), some 23, none⟩,
  ⟨.mv (.t 23), some 6, none⟩]
def J0M : Jc := .seq (.seq (.reg false [] [⟨.mv (.t 6), some 20, none⟩,
  ⟨.bin .lss .plain (.t 20) (.c (.p (.i .i64 16))), some 21, none⟩])
 (.cond (.t 21)
 (.skip)
 (.exit 0)))
 (.seq (.block 1 (.seq (.reg false [] [⟨.mv (.c (.p (.i .i64 255))), some 7, none⟩])
 (.seq (.seq (.reg false [] [⟨.mv (.t 6), some 24, none⟩,
  ⟨.faddr 2 (.t 1), some 25, none⟩,
  ⟨.aaddr 16 2 (.t 25) (.t 24), some 26, none⟩,
  ⟨.faddr 0 (.t 26), some 27, none⟩,
  ⟨.load false 1 (.t 27), some 28, none⟩])
 (.keep [1, 5, 6, 7, 28] (.cond (.t 28)
 (.reg false [] [⟨.mv (.t 6), some 29, none⟩,
   ⟨.faddr 2 (.t 1), some 30, none⟩,
   ⟨.aaddr 16 2 (.t 30) (.t 29), some 31, none⟩,
   ⟨.faddr 1 (.t 31), some 32, none⟩,
   ⟨.load false 1 (.t 32), some 33, none⟩,
   ⟨.len true (.t 33), some 34, none⟩,
   ⟨.mv (.t 34), some 7, none⟩])
 (.skip))))
 (.keep [1, 5, 6, 7] J80))))
 (.keep [1, 5, 6] J6k))
def J1K : Jc := .seq (.reg false [] [⟨.mv (.t 5), some 54, none⟩,
  ⟨.mv (.t 5), some 55, none⟩,
  ⟨.len true (.t 55), some 56, none⟩,
  ⟨.bin .sub .plain (.c (.p (.i .i64 244))) (.t 56), some 57, none⟩,
  ⟨.call J2T [(.t 57)] 0, some 58, none⟩,
  ⟨.bin .add .plain (.t 54) (.t 58), some 59, none⟩,
  ⟨.mv (.t 59), some 5, none⟩])
 (.keep [1, 5] (.seq (.reg false [] [⟨.mv (.t 5), some 60, none⟩,
  ⟨.mv (.t 5), some 61, none⟩,
  ⟨.call J5F [(.t 61)] 0, some 62, none⟩,
  ⟨.conv (.int .i64) (.t 62), some 63, none⟩,
  ⟨.call J35 [(.t 60), (.t 63), (.c (.p (.i .i64 4)))] 0, some 64, none⟩,
  ⟨.mv (.t 64), some 5, none⟩])
 (.keep [1, 5] (.seq (.reg false [] [⟨.mv (.t 5), some 65, none⟩,
  ⟨.faddr 1 (.t 1), some 66, none⟩,
  ⟨.load false 1 (.t 66), some 67, none⟩,
  ⟨.call J35 [(.t 65), (.t 67), (.c (.p (.i .i64 8)))] 0, some 68, none⟩,
  ⟨.mv (.t 68), some 2, none⟩,
  ⟨.mv (.c (.p (.i .i64 0))), some 3, none⟩])
 (.ret)))))
def J3L : Jc := .seq (.reg false [] [⟨.box 34 (.t 0), some 1, none⟩,
  ⟨.mv (.c (.p (.s []))), some 2, none⟩,
  ⟨.mv (.c (.p (.i .i64 0))), some 3, none⟩])
 (.keep [1] (.seq (.seq (.reg false [] [⟨.load true 34 (.t 1), some 8, none⟩,
  ⟨.call J59 [(.t 8)] 0, some 9, none⟩,
  ⟨.mv (.t 9), some 4, none⟩])
 (.keep [1, 4] (.seq (.reg false [] [⟨.mv (.t 4), some 10, none⟩,
  ⟨.bin .neq .plain (.t 10) (.c (.p (.i .i64 0))), some 11, none⟩])
 (.cond (.t 11)
 (.seq (.reg false [] [⟨.mv (.t 4), some 12, none⟩,
   ⟨.mv (.c (.p (.s []))), some 2, none⟩,
   ⟨.mv (.t 12), some 3, none⟩])
  (.ret))
 (.skip)))))
 (.seq (.reg false [] [⟨.faddr 1 (.t 1), some 13, none⟩,
  ⟨.load false 1 (.t 13), some 14, none⟩,
  ⟨.call J35 [(.c (.p (.s []))), (.t 14), (.c (.p (.i .i64 8)))] 0, some 15, none⟩,
  ⟨.mv (.t 15), some 5, none⟩])
 (.keep [1, 5] (.seq (.reg false [] [⟨.mv (.t 5), some 16, none⟩,
  ⟨.faddr 0 (.t 1), some 17, none⟩,
  ⟨.load false 1 (.t 17), some 18, none⟩,
  ⟨.call J35 [(.t 16), (.t 18), (.c (.p (.i .i64 4)))] 0, some 19, none⟩,
  ⟨.mv (.t 19), some 5, none⟩])
 (.keep [1, 5] (.seq (.seq (.reg false [] [⟨.mv (.c (.p (.i .i64 0))), some 6, none⟩])
 (.block 0 (.loop [1, 5, 6] J0M)))
 (.keep [1, 5] J1K))))))))
def J0Y : AFn := ⟨1, 69, J3L, [.tmp 2, .tmp 3], false⟩
def J0G : Jc := .seq (.reg false [] [⟨.newbox (J3 default), some 4, none⟩,
  ⟨.mv (.c (.p (.i .i64 0))), some 5, none⟩])
 (.seq (.seq (.reg false [] [⟨.mv (.t 1), some 8, none⟩,
  ⟨.call J4J [(.t 8)] 0, some 9, none⟩,
  ⟨.un .not (.t 9), some 10, none⟩])
 (.keep [0, 1, 4, 10] (.cond (.t 10)
 (.seq (.reg false [] [⟨.build (J3 default) [], some 11, none⟩,
   ⟨.store 34 (.t 4) (.t 11), none, none⟩,
   ⟨.mv (.c (.p (.i .i64 1))), some 5, none⟩])
  (.ret))
 (.skip))))
 (.seq (.reg false [] [⟨.mv (.t 0), some 13, none⟩,
  ⟨.call J5l [(.t 13)] 0, some 14, none⟩,
  ⟨.mv (.t 14), some 12, none⟩,
  ⟨.extr (.t 12) 0, some 15, none⟩,
  ⟨.extr (.t 12) 1, some 16, none⟩,
  ⟨.newbox (J3 default), some 6, none⟩,
  ⟨.store 34 (.t 6) (.t 15), none, none⟩,
  ⟨.mv (.t 16), some 7, none⟩])
 (.keep [1, 4, 6, 7] (.seq (.block 0 (.seq (.reg false [] [⟨.mv (.t 7), some 18, none⟩,
  ⟨.bin .eql .plain (.t 18) (.c (.p (.i .i64 7))), some 19, none⟩,
  ⟨.mv (.t 19), some 17, none⟩])
 (.keep [1, 4, 6, 7, 17] (.cond (.t 17)
 (.seq (.reg false [] [⟨.mv (.t 1), some 20, none⟩,
   ⟨.call J7f [(.t 20)] 0, some 21, none⟩,
   ⟨.store 34 (.t 4) (.t 21), none, none⟩,
   ⟨.mv (.c (.p (.i .i64 0))), some 5, none⟩])
  (.ret))
 (.seq (.reg false [] [⟨.mv (.t 7), some 23, none⟩,
   ⟨.bin .neq .plain (.t 23) (.c (.p (.i .i64 0))), some 24, none⟩,
   ⟨.mv (.t 24), some 22, none⟩])
  (.keep [1, 4, 6, 7, 22] (.cond (.t 22)
  (.seq (.reg false [] [⟨.build (J3 default) [], some 25, none⟩,
    ⟨.mv (.t 7), some 26, none⟩,
    ⟨.store 34 (.t 4) (.t 25), none, none⟩,
    ⟨.mv (.t 26), some 5, none⟩])
   (.ret))
  (.seq (.reg false [] [⟨.faddr 0 (.t 6), some 28, none⟩,
    ⟨.load false 1 (.t 28), some 29, none⟩,
    ⟨.mv (.t 1), some 30, none⟩,
    ⟨.bin .neq .plain (.t 29) (.t 30), some 31, none⟩,
    ⟨.mv (.t 31), some 27, none⟩])
   (.keep [4, 6, 27] (.cond (.t 27)
   (.seq (.reg false [] [⟨.build (J3 default) [], some 32, none⟩,
     ⟨.store 34 (.t 4) (.t 32), none, none⟩,
     ⟨.mv (.c (.p (.i .i64 6))), some 5, none⟩])
    (.ret))
   (.skip)))))))))))
 (.seq (.reg false [] [⟨.load true 34 (.t 6), some 33, none⟩,
  ⟨.store 34 (.t 4) (.t 33), none, none⟩,
  ⟨.mv (.c (.p (.i .i64 0))), some 5, none⟩])
 (.ret))))))
def J45 : AFn := ⟨2, 34, J0G, [.cell 4 true 34, .tmp 5], false⟩
def Jfe : Jc := .reg false [] [⟨.mv (.t 7), some 55, none⟩,
  ⟨.bin .add .plain (.t 55) (.c (.p (.i .i64 1))), some 56, none⟩,
  ⟨.mv (.t 56), some 7, none⟩]
def JfD : Jc := .seq (.seq (.reg false [] [⟨.mv (.t 7), some 53, none⟩,
  ⟨.bin .lss .plain (.t 53) (.c (.p (.i .i64 16))), some 54, none⟩])
 (.cond (.t 54)
 (.skip)
 (.exit 1)))
 (.seq (.block 2 (.seq (.reg false [] [⟨.mv (.t 7), some 57, none⟩,
  ⟨.bin .mul .plain (.t 57) (.c (.p (.i .i64 13))), some 58, none⟩,
  ⟨.bin .add .plain (.c (.p (.i .i64 12))) (.t 58), some 59, none⟩,
  ⟨.mv (.t 59), some 8, none⟩])
 (.keep [0, 2, 6, 7, 8] (.seq (.reg false [] [⟨.mv (.t 0), some 60, none⟩,
  ⟨.mv (.t 8), some 61, none⟩,
  ⟨.sidx (.t 60) (.t 61), some 62, none⟩,
  ⟨.conv (.int .i64) (.t 62), some 63, none⟩,
  ⟨.mv (.t 63), some 9, none⟩])
 (.keep [0, 2, 6, 7, 8, 9] (.seq (.seq (.reg false [] [⟨.mv (.t 9), some 64, none⟩,
  ⟨.bin .eql .plain (.t 64) (.c (.p (.i .i64 255))), some 65, none⟩])
 (.cond (.t 65)
 (.exit 2)
 (.skip)))
 (.seq (.seq (.reg false [] [⟨.mv (.t 9), some 66, none⟩,
  ⟨.bin .gtr .plain (.t 66) (.c (.p (.i .i64 12))), some 67, none⟩])
 (.cond (.t 67)
 (.seq (.reg false [] [⟨.build (J3 default) [], some 68, none⟩,
   ⟨.store 34 (.t 2) (.t 68), none, none⟩,
   ⟨.mv (.c (.p (.i .i64 4))), some 3, none⟩])
  (.ret))
 (.skip)))
 (.reg false [] [⟨.mv (.t 7), some 69, none⟩,
  ⟨.mv (.t 0), some 70, none⟩,
  ⟨.mv (.t 8), some 71, none⟩,
  ⟨.bin .add .plain (.t 71) (.c (.p (.i .i64 1))), some 72, none⟩,
  ⟨.mv (.t 8), some 73, none⟩,
  ⟨.bin .add .plain (.t 73) (.c (.p (.i .i64 1))), some 74, none⟩,
  ⟨.mv (.t 9), some 75, none⟩,
  ⟨.bin .add .plain (.t 74) (.t 75), some 76, none⟩,
  ⟨.slice .str (.t 70) (some (.t 72)) (some (.t 76)) none, some 77, none⟩,
  ⟨.build (Jb default) [(0, 1, (.c (.p (.b true)))), (1, 1, (.t 77))], some 78, none⟩,
  ⟨.faddr 2 (.t 6), some 79, none⟩,
  ⟨.aaddr 16 2 (.t 79) (.t 69), some 80, none⟩,
  ⟨.store 2 (.t 80) (.t 78), none, none⟩]))))))))
 (.keep [0, 2, 6, 7] Jfe))
def JfO : Jc := .seq (.seq (.reg false [] [⟨.load true 34 (.t 6), some 82, none⟩,
  ⟨.call J3M [(.t 82)] 0, some 83, none⟩,
  ⟨.mv (.t 83), some 81, none⟩,
  ⟨.extr (.t 81) 0, some 84, none⟩,
  ⟨.extr (.t 81) 1, some 85, none⟩,
  ⟨.mv (.t 84), some 10, none⟩,
  ⟨.mv (.t 85), some 11, none⟩])
 (.keep [0, 2, 6, 10, 11] (.seq (.reg false [] [⟨.mv (.t 11), some 86, none⟩,
  ⟨.bin .neq .plain (.t 86) (.c (.p (.i .i64 0))), some 87, none⟩,
  ⟨.mv (.t 87), some 88, none⟩,
  ⟨.mv (.t 10), some 89, some (88, false)⟩,
  ⟨.mv (.t 0), some 90, some (88, false)⟩,
  ⟨.bin .neq .plain (.t 89) (.t 90), some 91, some (88, false)⟩,
  ⟨.pick (.t 88) (.c (.p (.b true))) (.t 91), some 92, none⟩])
 (.keep [2, 6, 92] (.cond (.t 92)
 (.seq (.reg false [] [⟨.build (J3 default) [], some 93, none⟩,
   ⟨.store 34 (.t 2) (.t 93), none, none⟩,
   ⟨.mv (.c (.p (.i .i64 4))), some 3, none⟩])
  (.ret))
 (.skip))))))
 (.seq (.reg false [] [⟨.load true 34 (.t 6), some 94, none⟩,
  ⟨.store 34 (.t 2) (.t 94), none, none⟩,
  ⟨.mv (.c (.p (.i .i64 0))), some 3, none⟩])
 (.ret))
def J95 : Jc := .seq (.reg false [] [⟨.newbox (J3 default), some 2, none⟩,
  ⟨.mv (.c (.p (.i .i64 0))), some 3, none⟩])
 (.seq (.block 0 (.seq (.reg false [] [⟨.mv (.t 0), some 13, none⟩,
  ⟨.len true (.t 13), some 14, none⟩,
  ⟨.bin .neq .plain (.t 14) (.c (.p (.i .i64 256))), some 15, none⟩,
  ⟨.mv (.t 15), some 12, none⟩])
 (.keep [0, 2, 12] (.cond (.t 12)
 (.seq (.reg false [] [⟨.build (J3 default) [], some 16, none⟩,
   ⟨.store 34 (.t 2) (.t 16), none, none⟩,
   ⟨.mv (.c (.p (.i .i64 2))), some 3, none⟩])
  (.ret))
 (.seq (.reg false [] [⟨.mv (.t 0), some 18, none⟩,
   ⟨.call J9r [] 0, some 19, none⟩,
   ⟨.bin .eql .plain (.t 18) (.t 19), some 20, none⟩,
   ⟨.mv (.t 20), some 17, none⟩])
  (.keep [0, 2, 17] (.cond (.t 17)
  (.seq (.reg false [] [⟨.build (J3 default) [], some 21, none⟩,
    ⟨.store 34 (.t 2) (.t 21), none, none⟩,
    ⟨.mv (.c (.p (.i .i64 7))), some 3, none⟩])
   (.ret))
  (.seq (.reg true [] [⟨.mv (.t 0), some 23, none⟩,
    ⟨.slice .str (.t 23) none (some (.c (.p (.i .i64 8)))) none, some 24, none⟩,
    ⟨.mv (.t 0), some 25, none⟩,
    ⟨.slice .str (.t 25) (some (.c (.p (.i .i64 248)))) none none, some 26, none⟩,
    ⟨.bin .neq .plain (.t 24) (.t 26), some 27, none⟩,
    ⟨.mv (.t 27), some 22, none⟩])
   (.keep [0, 2, 22] (.cond (.t 22)
   (.seq (.reg false [] [⟨.build (J3 default) [], some 28, none⟩,
     ⟨.store 34 (.t 2) (.t 28), none, none⟩,
     ⟨.mv (.c (.p (.i .i64 27))), some 3, none⟩])
    (.ret))
   (.skip)))))))))))
 (.seq (.reg false [] [⟨.mv (.t 0), some 30, none⟩,
  ⟨.call J7F [(.t 30), (.c (.p (.i .i64 244))), (.c (.p (.i .i64 4)))] 0, some 31, none⟩,
  ⟨.mv (.t 31), some 29, none⟩,
  ⟨.extr (.t 29) 0, some 32, none⟩,
  ⟨.extr (.t 29) 1, some 33, none⟩,
  ⟨.mv (.t 32), some 4, none⟩,
  ⟨.mv (.t 33), some 5, none⟩])
 (.keep [0, 2, 4] (.seq (.seq (.reg false [] [⟨.mv (.t 4), some 34, none⟩,
  ⟨.conv (.int .u32) (.t 34), some 35, none⟩,
  ⟨.mv (.t 0), some 36, none⟩,
  ⟨.slice .str (.t 36) none (some (.c (.p (.i .i64 244)))) none, some 37, none⟩,
  ⟨.call J5F [(.t 37)] 0, some 38, none⟩,
  ⟨.bin .neq .plain (.t 35) (.t 38), some 39, none⟩])
 (.keep [0, 2, 39] (.cond (.t 39)
 (.seq (.reg false [] [⟨.build (J3 default) [], some 40, none⟩,
   ⟨.store 34 (.t 2) (.t 40), none, none⟩,
   ⟨.mv (.c (.p (.i .i64 3))), some 3, none⟩])
  (.ret))
 (.skip))))
 (.seq (.reg false [] [⟨.newbox (J3 default), some 6, none⟩])
 (.seq (.reg false [] [⟨.mv (.t 0), some 42, none⟩,
  ⟨.call J7F [(.t 42), (.c (.p (.i .i64 0))), (.c (.p (.i .i64 8)))] 0, some 43, none⟩,
  ⟨.mv (.t 43), some 41, none⟩,
  ⟨.extr (.t 41) 0, some 44, none⟩,
  ⟨.extr (.t 41) 1, some 45, none⟩,
  ⟨.faddr 1 (.t 6), some 46, none⟩,
  ⟨.store 1 (.t 46) (.t 44), none, none⟩])
 (.keep [0, 2, 6] (.seq (.reg false [] [⟨.mv (.t 0), some 48, none⟩,
  ⟨.call J7F [(.t 48), (.c (.p (.i .i64 8))), (.c (.p (.i .i64 4)))] 0, some 49, none⟩,
  ⟨.mv (.t 49), some 47, none⟩,
  ⟨.extr (.t 47) 0, some 50, none⟩,
  ⟨.extr (.t 47) 1, some 51, none⟩,
  ⟨.faddr 0 (.t 6), some 52, none⟩,
  ⟨.store 1 (.t 52) (.t 50), none, none⟩])
 (.keep [0, 2, 6] (.seq (.seq (.reg false [] [⟨.mv (.c (.p (.i .i64 0))), some 7, none⟩])
 (.block 1 (.loop [0, 2, 6, 7] JfD)))
 (.keep [0, 2, 6] JfO)))))))))))
def Jbt : AFn := ⟨1, 95, J95, [.cell 2 true 34, .tmp 3], false⟩
def JM : Jc := .seq (.reg false [] [⟨.bin .lss .plain (.t 36) (.t 35), some 37, none⟩])
 (.seq (.cond (.t 37)
 (.skip)
 (.exit 0))
 (.seq (.block 1 (.seq (.reg false [] [⟨.mv (.t 36), some 38, none⟩,
  ⟨.mv (.t 38), some 3, none⟩])
 (.seq (.reg false [] [⟨.faddr 2 (.t 1), some 39, none⟩,
  ⟨.load false 1 (.t 39), some 40, none⟩,
  ⟨.mv (.t 3), some 41, none⟩,
  ⟨.iaddr 3 (.t 40) (.t 41), some 42, none⟩,
  ⟨.load true 3 (.t 42), some 43, none⟩,
  ⟨.newbox (J7 default), some 4, none⟩,
  ⟨.store 3 (.t 4) (.t 43), none, none⟩])
 (.keep [1, 3, 4, 35, 36] (.seq (.seq (.reg true [] [⟨.faddr 0 (.t 4), some 44, none⟩,
  ⟨.load false 1 (.t 44), some 45, none⟩,
  ⟨.faddr 1 (.t 1), some 46, none⟩,
  ⟨.load false 1 (.t 46), some 47, none⟩,
  ⟨.bin .geq .plain (.t 45) (.t 47), some 48, none⟩,
  ⟨.mv (.t 48), some 49, none⟩,
  ⟨.mv (.t 3), some 50, some (49, false)⟩,
  ⟨.bin .gtr .plain (.t 50) (.c (.p (.i .i64 0))), some 51, some (49, false)⟩,
  ⟨.mv (.t 51), some 52, some (49, false)⟩,
  ⟨.faddr 2 (.t 1), some 53, some (52, true)⟩,
  ⟨.load false 1 (.t 53), some 54, some (52, true)⟩,
  ⟨.mv (.t 3), some 55, some (52, true)⟩,
  ⟨.bin .sub .plain (.t 55) (.c (.p (.i .i64 1))), some 56, some (52, true)⟩,
  ⟨.iaddr 3 (.t 54) (.t 56), some 57, some (52, true)⟩,
  ⟨.faddr 0 (.t 57), some 58, some (52, true)⟩,
  ⟨.load false 1 (.t 58), some 59, some (52, true)⟩,
  ⟨.faddr 0 (.t 4), some 60, some (52, true)⟩,
  ⟨.load false 1 (.t 60), some 61, some (52, true)⟩,
  ⟨.bin .geq .plain (.t 59) (.t 61), some 62, some (52, true)⟩,
  ⟨.pick (.t 52) (.t 62) (.c (.p (.b false))), some 63, some (49, false)⟩,
  ⟨.pick (.t 49) (.c (.p (.b true))) (.t 63), some 64, none⟩])
 (.keep [1, 4, 35, 36, 64] (.cond (.t 64)
 (.seq (.reg false [] [⟨.mv (.c (.p (.b false))), some 2, none⟩])
  (.ret))
 (.skip))))
 (.seq (.reg false [] [⟨.faddr 2 (.t 4), some 66, none⟩,
  ⟨.load false 1 (.t 66), some 67, none⟩,
  ⟨.faddr 0 (.t 4), some 68, none⟩,
  ⟨.load false 1 (.t 68), some 69, none⟩,
  ⟨.call J3l [(.t 67), (.t 69)] 0, some 70, none⟩,
  ⟨.mv (.t 70), some 65, none⟩,
  ⟨.extr (.t 65) 0, some 71, none⟩,
  ⟨.extr (.t 65) 1, some 72, none⟩,
  ⟨.newbox (J3 default), some 5, none⟩,
  ⟨.store 34 (.t 5) (.t 71), none, none⟩,
  ⟨.mv (.t 72), some 6, none⟩])
 (.keep [1, 4, 5, 6, 35, 36] (.seq (.reg false [] [⟨.mv (.t 6), some 73, none⟩,
  ⟨.bin .neq .plain (.t 73) (.c (.p (.i .i64 0))), some 74, none⟩,
  ⟨.mv (.t 74), some 75, none⟩,
  ⟨.faddr 1 (.t 5), some 76, some (75, false)⟩,
  ⟨.load false 1 (.t 76), some 77, some (75, false)⟩,
  ⟨.faddr 1 (.t 4), some 78, some (75, false)⟩,
  ⟨.load false 1 (.t 78), some 79, some (75, false)⟩,
  ⟨.bin .neq .plain (.t 77) (.t 79), some 80, some (75, false)⟩,
  ⟨.pick (.t 75) (.c (.p (.b true))) (.t 80), some 81, none⟩])
 (.keep [1, 35, 36, 81] (.cond (.t 81)
 (.seq (.reg false [] [⟨.mv (.c (.p (.b false))), some 2, none⟩])
  (.ret))
 (.skip)))))))))))
 (.reg false [] [⟨.bin .add .plain (.t 36) (.c (.p (.i .i64 1))), some 82, none⟩,
  ⟨.mv (.t 82), some 36, none⟩])))
def J39 : Jc := .seq (.reg false [] [⟨.mv (.c (.p (.b true))), some 2, none⟩])
 (.ret)
def J11 : Jc := .seq (.reg false [] [⟨.box 3 (.t 0), some 1, none⟩,
  ⟨.mv (.c (.p (.b false))), some 2, none⟩])
 (.seq (.seq (.reg false [] [⟨.faddr 0 (.t 1), some 7, none⟩,
  ⟨.load false 1 (.t 7), some 8, none⟩,
  ⟨.bin .lss .plain (.t 8) (.c (.p (.i .i64 1))), some 9, none⟩,
  ⟨.mv (.t 9), some 10, none⟩,
  ⟨.faddr 0 (.t 1), some 11, some (10, false)⟩,
  ⟨.load false 1 (.t 11), some 12, some (10, false)⟩,
  ⟨.bin .gtr .plain (.t 12) (.c (.p (.i .i64 1073741824))), some 13, some (10, false)⟩,
  ⟨.pick (.t 10) (.c (.p (.b true))) (.t 13), some 14, none⟩,
  ⟨.mv (.t 14), some 15, none⟩,
  ⟨.faddr 1 (.t 1), some 16, some (15, false)⟩,
  ⟨.load false 1 (.t 16), some 17, some (15, false)⟩,
  ⟨.bin .lss .plain (.t 17) (.c (.p (.i .i64 1))), some 18, some (15, false)⟩,
  ⟨.pick (.t 15) (.c (.p (.b true))) (.t 18), some 19, none⟩,
  ⟨.mv (.t 19), some 20, none⟩,
  ⟨.faddr 1 (.t 1), some 21, some (20, false)⟩,
  ⟨.load false 1 (.t 21), some 22, some (20, false)⟩,
  ⟨.bin .gtr .plain (.t 22) (.c (.p (.i .i64 64))), some 23, some (20, false)⟩,
  ⟨.pick (.t 20) (.c (.p (.b true))) (.t 23), some 24, none⟩,
  ⟨.mv (.t 24), some 25, none⟩,
  ⟨.faddr 2 (.t 1), some 26, some (25, false)⟩,
  ⟨.load false 1 (.t 26), some 27, some (25, false)⟩,
  ⟨.len false (.t 27), some 28, some (25, false)⟩,
  ⟨.faddr 1 (.t 1), some 29, some (25, false)⟩,
  ⟨.load false 1 (.t 29), some 30, some (25, false)⟩,
  ⟨.bin .gtr .plain (.t 28) (.t 30), some 31, some (25, false)⟩,
  ⟨.pick (.t 25) (.c (.p (.b true))) (.t 31), some 32, none⟩])
 (.keep [1, 32] (.cond (.t 32)
 (.seq (.reg false [] [⟨.mv (.c (.p (.b false))), some 2, none⟩])
  (.ret))
 (.skip))))
 (.seq (.tidy [2] (.seq (.reg false [] [⟨.faddr 2 (.t 1), some 33, none⟩,
  ⟨.load false 1 (.t 33), some 34, none⟩,
  ⟨.len false (.t 34), some 35, none⟩,
  ⟨.mv (.c (.p (.i .i64 0))), some 36, none⟩])
 (.keep [1, 35, 36] (.block 0 (.loop [1, 35, 36] JM)))))
 (.keep [] J39)))
def J1N : AFn := ⟨1, 83, J11, [.tmp 2], false⟩
def J83 : Jc := .seq (.reg false [] [⟨.newbox (J3 default), some 4, none⟩,
  ⟨.mv (.c (.p (.i .i64 0))), some 5, none⟩])
 (.seq (.seq (.reg false [] [⟨.mv (.t 1), some 8, none⟩,
  ⟨.bin .lss .plain (.t 8) (.c (.p (.i .i64 0))), some 9, none⟩,
  ⟨.mv (.t 9), some 10, none⟩,
  ⟨.mv (.t 1), some 11, some (10, false)⟩,
  ⟨.bin .geq .plain (.t 11) (.c (.p (.i .i64 64))), some 12, some (10, false)⟩,
  ⟨.pick (.t 10) (.c (.p (.b true))) (.t 12), some 13, none⟩])
 (.keep [0, 1, 4, 13] (.cond (.t 13)
 (.seq (.reg false [] [⟨.build (J3 default) [], some 14, none⟩,
   ⟨.store 34 (.t 4) (.t 14), none, none⟩,
   ⟨.mv (.c (.p (.i .i64 1))), some 5, none⟩])
  (.ret))
 (.skip))))
 (.seq (.reg false [] [⟨.mv (.t 0), some 16, none⟩,
  ⟨.call J91 [(.t 16)] 0, some 17, none⟩,
  ⟨.mv (.t 17), some 15, none⟩,
  ⟨.extr (.t 15) 0, some 18, none⟩,
  ⟨.extr (.t 15) 1, some 19, none⟩,
  ⟨.newbox (J3 default), some 6, none⟩,
  ⟨.store 34 (.t 6) (.t 18), none, none⟩,
  ⟨.mv (.t 19), some 7, none⟩])
 (.keep [1, 4, 6, 7] (.seq (.seq (.reg false [] [⟨.mv (.t 7), some 20, none⟩,
  ⟨.bin .eql .plain (.t 20) (.c (.p (.i .i64 7))), some 21, none⟩])
 (.cond (.t 21)
 (.seq (.reg false [] [⟨.mv (.t 1), some 22, none⟩,
   ⟨.call Jb1 [(.t 22)] 0, some 23, none⟩,
   ⟨.store 34 (.t 4) (.t 23), none, none⟩,
   ⟨.mv (.c (.p (.i .i64 0))), some 5, none⟩])
  (.ret))
 (.skip)))
 (.seq (.seq (.reg false [] [⟨.mv (.t 7), some 24, none⟩,
  ⟨.bin .eql .plain (.t 24) (.c (.p (.i .i64 0))), some 25, none⟩,
  ⟨.mv (.t 25), some 26, none⟩,
  ⟨.faddr 0 (.t 6), some 27, some (26, true)⟩,
  ⟨.load false 1 (.t 27), some 28, some (26, true)⟩,
  ⟨.mv (.t 1), some 29, some (26, true)⟩,
  ⟨.bin .neq .plain (.t 28) (.t 29), some 30, some (26, true)⟩,
  ⟨.pick (.t 26) (.t 30) (.c (.p (.b false))), some 31, none⟩])
 (.keep [4, 6, 7, 31] (.cond (.t 31)
 (.seq (.reg false [] [⟨.build (J3 default) [], some 32, none⟩,
   ⟨.store 34 (.t 4) (.t 32), none, none⟩,
   ⟨.mv (.c (.p (.i .i64 6))), some 5, none⟩])
  (.ret))
 (.skip))))
 (.seq (.reg false [] [⟨.load true 34 (.t 6), some 33, none⟩,
  ⟨.mv (.t 7), some 34, none⟩,
  ⟨.store 34 (.t 4) (.t 33), none, none⟩,
  ⟨.mv (.t 34), some 5, none⟩])
 (.ret)))))))
def Jam : AFn := ⟨2, 35, J83, [.cell 4 true 34, .tmp 5], false⟩
def J9q : Jc := .seq (.reg false [] [⟨.faddr 2 (.t 3), some 56, none⟩,
  ⟨.load false 1 (.t 56), some 57, none⟩,
  ⟨.mv (.t 10), some 58, none⟩,
  ⟨.mv (.t 1), some 59, none⟩,
  ⟨.faddr 1 (.t 8), some 60, none⟩,
  ⟨.load false 1 (.t 60), some 61, none⟩,
  ⟨.mv (.t 2), some 62, none⟩,
  ⟨.build (J7 default) [(0, 1, (.t 59)), (1, 1, (.t 61)), (2, 1, (.t 62))], some 63, none⟩,
  ⟨.iaddr 3 (.t 57) (.t 58), some 64, none⟩,
  ⟨.store 3 (.t 64) (.t 63), none, none⟩])
 (.keep [3, 6] (.seq (.reg false [] [⟨.load true 3 (.t 3), some 65, none⟩,
  ⟨.store 3 (.t 6) (.t 65), none, none⟩,
  ⟨.mv (.c (.p (.i .i64 0))), some 7, none⟩])
 (.ret)))
def J1k : Jc := .seq (.reg false [] [⟨.box 3 (.t 0), some 3, none⟩,
  ⟨.newbox (J4 default), some 6, none⟩,
  ⟨.mv (.c (.p (.i .i64 0))), some 7, none⟩])
 (.keep [1, 2, 3, 6] (.seq (.block 0 (.seq (.reg false [] [⟨.load true 3 (.t 3), some 13, none⟩,
  ⟨.call J2P [(.t 13)] 0, some 14, none⟩,
  ⟨.un .not (.t 14), some 15, none⟩,
  ⟨.mv (.t 15), some 12, none⟩])
 (.keep [1, 2, 3, 6, 12] (.cond (.t 12)
 (.seq (.reg false [] [⟨.build (J4 default) [], some 16, none⟩,
   ⟨.store 3 (.t 6) (.t 16), none, none⟩,
   ⟨.mv (.c (.p (.i .i64 43))), some 7, none⟩])
  (.ret))
 (.seq (.reg false [] [⟨.mv (.t 1), some 18, none⟩,
   ⟨.bin .lss .plain (.t 18) (.c (.p (.i .i64 0))), some 19, none⟩,
   ⟨.mv (.t 19), some 20, none⟩,
   ⟨.mv (.t 1), some 21, some (20, false)⟩,
   ⟨.faddr 1 (.t 3), some 22, some (20, false)⟩,
   ⟨.load false 1 (.t 22), some 23, some (20, false)⟩,
   ⟨.bin .geq .plain (.t 21) (.t 23), some 24, some (20, false)⟩,
   ⟨.pick (.t 20) (.c (.p (.b true))) (.t 24), some 25, none⟩,
   ⟨.mv (.t 25), some 17, none⟩])
  (.keep [1, 2, 3, 6, 17] (.cond (.t 17)
  (.seq (.reg false [] [⟨.build (J4 default) [], some 26, none⟩,
    ⟨.store 3 (.t 6) (.t 26), none, none⟩,
    ⟨.mv (.c (.p (.i .i64 1))), some 7, none⟩])
   (.ret))
  (.skip))))))))
 (.seq (.reg false [] [⟨.mv (.t 2), some 28, none⟩,
  ⟨.mv (.t 1), some 29, none⟩,
  ⟨.call J3l [(.t 28), (.t 29)] 0, some 30, none⟩,
  ⟨.mv (.t 30), some 27, none⟩,
  ⟨.extr (.t 27) 0, some 31, none⟩,
  ⟨.extr (.t 27) 1, some 32, none⟩,
  ⟨.newbox (J3 default), some 8, none⟩,
  ⟨.store 34 (.t 8) (.t 31), none, none⟩,
  ⟨.mv (.t 32), some 9, none⟩])
 (.keep [1, 2, 3, 6, 8, 9] (.seq (.seq (.reg false [] [⟨.mv (.t 9), some 33, none⟩,
  ⟨.bin .neq .plain (.t 33) (.c (.p (.i .i64 0))), some 34, none⟩])
 (.cond (.t 34)
 (.seq (.reg false [] [⟨.build (J4 default) [], some 35, none⟩,
   ⟨.mv (.t 9), some 36, none⟩,
   ⟨.store 3 (.t 6) (.t 35), none, none⟩,
   ⟨.mv (.t 36), some 7, none⟩])
  (.ret))
 (.skip)))
 (.seq (.reg false [] [⟨.load true 3 (.t 3), some 38, none⟩,
  ⟨.mv (.t 1), some 39, none⟩,
  ⟨.call J4f [(.t 38), (.t 39)] 0, some 40, none⟩,
  ⟨.mv (.t 40), some 37, none⟩,
  ⟨.extr (.t 37) 0, some 41, none⟩,
  ⟨.extr (.t 37) 1, some 42, none⟩,
  ⟨.mv (.t 41), some 10, none⟩,
  ⟨.mv (.t 42), some 11, none⟩])
 (.keep [1, 2, 3, 6, 8, 10, 11] (.seq (.reg false [] [⟨.faddr 2 (.t 3), some 43, none⟩,
  ⟨.load false 1 (.t 43), some 44, none⟩,
  ⟨.call J0s [(.t 44)] 1, some 45, none⟩,
  ⟨.faddr 2 (.t 3), some 46, none⟩,
  ⟨.store 1 (.t 46) (.t 45), none, none⟩])
 (.keep [1, 2, 3, 6, 8, 10, 11] (.seq (.tidy [1, 2, 3, 6, 7, 8, 10] (.seq (.reg false [] [⟨.mv (.t 11), some 47, none⟩,
  ⟨.un .not (.t 47), some 48, none⟩])
 (.cond (.t 48)
 (.reg false [] [⟨.faddr 2 (.t 3), some 49, none⟩,
   ⟨.load false 1 (.t 49), some 50, none⟩,
   ⟨.mv (.t 10), some 51, none⟩,
   ⟨.build (J7 default) [], some 52, none⟩,
   ⟨.lits true 3 1 (J7 default) [(0, (.t 52))], some 53, none⟩,
   ⟨.callo J0U [true, false, true] [(.t 50), (.t 51), (.t 53)] 0, some 54, none⟩,
   ⟨.faddr 2 (.t 3), some 55, none⟩,
   ⟨.store 1 (.t 55) (.t 54), none, none⟩])
 (.skip))))
 (.keep [1, 2, 3, 6, 8, 10] J9q)))))))))))
def J5E : AFn := ⟨3, 66, J1k, [.cell 6 true 3, .tmp 7], false⟩
def J1y : Jc := .seq (.reg false [] [⟨.box 3 (.t 0), some 2, none⟩,
  ⟨.newbox (J7 default), some 4, none⟩,
  ⟨.mv (.c (.p (.b false))), some 5, none⟩])
 (.keep [1, 2, 4] (.seq (.seq (.reg false [] [⟨.load true 3 (.t 2), some 8, none⟩,
  ⟨.call J2P [(.t 8)] 0, some 9, none⟩,
  ⟨.un .not (.t 9), some 10, none⟩,
  ⟨.mv (.t 10), some 11, none⟩,
  ⟨.mv (.t 1), some 12, some (11, false)⟩,
  ⟨.bin .lss .plain (.t 12) (.c (.p (.i .i64 0))), some 13, some (11, false)⟩,
  ⟨.pick (.t 11) (.c (.p (.b true))) (.t 13), some 14, none⟩,
  ⟨.mv (.t 14), some 15, none⟩,
  ⟨.mv (.t 1), some 16, some (15, false)⟩,
  ⟨.faddr 1 (.t 2), some 17, some (15, false)⟩,
  ⟨.load false 1 (.t 17), some 18, some (15, false)⟩,
  ⟨.bin .geq .plain (.t 16) (.t 18), some 19, some (15, false)⟩,
  ⟨.pick (.t 15) (.c (.p (.b true))) (.t 19), some 20, none⟩])
 (.keep [1, 2, 4, 20] (.cond (.t 20)
 (.seq (.reg false [] [⟨.build (J7 default) [], some 21, none⟩,
   ⟨.store 3 (.t 4) (.t 21), none, none⟩,
   ⟨.mv (.c (.p (.b false))), some 5, none⟩])
  (.ret))
 (.skip))))
 (.seq (.reg false [] [⟨.load true 3 (.t 2), some 23, none⟩,
  ⟨.mv (.t 1), some 24, none⟩,
  ⟨.call J4f [(.t 23), (.t 24)] 0, some 25, none⟩,
  ⟨.mv (.t 25), some 22, none⟩,
  ⟨.extr (.t 22) 0, some 26, none⟩,
  ⟨.extr (.t 22) 1, some 27, none⟩,
  ⟨.mv (.t 26), some 6, none⟩,
  ⟨.mv (.t 27), some 7, none⟩])
 (.keep [2, 4, 6, 7] (.seq (.seq (.reg false [] [⟨.mv (.t 7), some 28, none⟩,
  ⟨.un .not (.t 28), some 29, none⟩])
 (.cond (.t 29)
 (.seq (.reg false [] [⟨.build (J7 default) [], some 30, none⟩,
   ⟨.store 3 (.t 4) (.t 30), none, none⟩,
   ⟨.mv (.c (.p (.b false))), some 5, none⟩])
  (.ret))
 (.skip)))
 (.seq (.reg false [] [⟨.faddr 2 (.t 2), some 31, none⟩,
  ⟨.load false 1 (.t 31), some 32, none⟩,
  ⟨.mv (.t 6), some 33, none⟩,
  ⟨.iaddr 3 (.t 32) (.t 33), some 34, none⟩,
  ⟨.load true 3 (.t 34), some 35, none⟩,
  ⟨.store 3 (.t 4) (.t 35), none, none⟩,
  ⟨.mv (.c (.p (.b true))), some 5, none⟩])
 (.ret)))))))
def J5P : AFn := ⟨2, 36, J1y, [.cell 4 true 3, .tmp 5], false⟩
def J4k : Jc := .seq (.reg false [] [⟨.box 3 (.t 0), some 1, none⟩,
  ⟨.mv (.c (.p (.b false))), some 2, none⟩])
 (.seq (.reg false [] [⟨.load true 3 (.t 1), some 3, none⟩,
  ⟨.call J2P [(.t 3)] 0, some 4, none⟩,
  ⟨.mv (.t 4), some 5, none⟩,
  ⟨.faddr 2 (.t 1), some 6, some (5, true)⟩,
  ⟨.load false 1 (.t 6), some 7, some (5, true)⟩,
  ⟨.len false (.t 7), some 8, some (5, true)⟩,
  ⟨.faddr 1 (.t 1), some 9, some (5, true)⟩,
  ⟨.load false 1 (.t 9), some 10, some (5, true)⟩,
  ⟨.bin .eql .plain (.t 8) (.t 10), some 11, some (5, true)⟩,
  ⟨.pick (.t 5) (.t 11) (.c (.p (.b false))), some 12, none⟩,
  ⟨.mv (.t 12), some 2, none⟩])
 (.ret))
def J5c : AFn := ⟨1, 13, J4k, [.tmp 2], false⟩
def Jh0 : Jc := .seq (.seq (.reg false [] [⟨.mv (.t 3), some 25, none⟩,
  ⟨.faddr 2 (.t 1), some 26, none⟩,
  ⟨.load false 1 (.t 26), some 27, none⟩,
  ⟨.len false (.t 27), some 28, none⟩,
  ⟨.bin .lss .plain (.t 25) (.t 28), some 29, none⟩])
 (.keep [1, 3, 29] (.cond (.t 29)
 (.skip)
 (.exit 0))))
 (.seq (.block 1 (.seq (.reg false [] [⟨.faddr 2 (.t 1), some 32, none⟩,
  ⟨.load false 1 (.t 32), some 33, none⟩,
  ⟨.mv (.t 3), some 34, none⟩,
  ⟨.iaddr 3 (.t 33) (.t 34), some 35, none⟩,
  ⟨.load true 3 (.t 35), some 36, none⟩,
  ⟨.newbox (J7 default), some 4, none⟩,
  ⟨.store 3 (.t 4) (.t 36), none, none⟩])
 (.keep [1, 3, 4] (.seq (.seq (.reg true [] [⟨.faddr 0 (.t 4), some 37, none⟩,
  ⟨.load false 1 (.t 37), some 38, none⟩,
  ⟨.bin .lss .plain (.t 38) (.c (.p (.i .i64 0))), some 39, none⟩,
  ⟨.mv (.t 39), some 40, none⟩,
  ⟨.faddr 0 (.t 4), some 41, some (40, false)⟩,
  ⟨.load false 1 (.t 41), some 42, some (40, false)⟩,
  ⟨.faddr 1 (.t 1), some 43, some (40, false)⟩,
  ⟨.load false 1 (.t 43), some 44, some (40, false)⟩,
  ⟨.bin .geq .plain (.t 42) (.t 44), some 45, some (40, false)⟩,
  ⟨.pick (.t 40) (.c (.p (.b true))) (.t 45), some 46, none⟩,
  ⟨.mv (.t 46), some 47, none⟩,
  ⟨.mv (.t 3), some 48, some (47, false)⟩,
  ⟨.bin .gtr .plain (.t 48) (.c (.p (.i .i64 0))), some 49, some (47, false)⟩,
  ⟨.mv (.t 49), some 50, some (47, false)⟩,
  ⟨.faddr 2 (.t 1), some 51, some (50, true)⟩,
  ⟨.load false 1 (.t 51), some 52, some (50, true)⟩,
  ⟨.mv (.t 3), some 53, some (50, true)⟩,
  ⟨.bin .sub .plain (.t 53) (.c (.p (.i .i64 1))), some 54, some (50, true)⟩,
  ⟨.iaddr 3 (.t 52) (.t 54), some 55, some (50, true)⟩,
  ⟨.faddr 0 (.t 55), some 56, some (50, true)⟩,
  ⟨.load false 1 (.t 56), some 57, some (50, true)⟩,
  ⟨.faddr 0 (.t 4), some 58, some (50, true)⟩,
  ⟨.load false 1 (.t 58), some 59, some (50, true)⟩,
  ⟨.bin .geq .plain (.t 57) (.t 59), some 60, some (50, true)⟩,
  ⟨.pick (.t 50) (.t 60) (.c (.p (.b false))), some 61, some (47, false)⟩,
  ⟨.pick (.t 47) (.c (.p (.b true))) (.t 61), some 62, none⟩])
 (.keep [1, 3, 4, 62] (.cond (.t 62)
 (.seq (.reg false [] [⟨.mv (.c (.p (.b false))), some 2, none⟩])
  (.ret))
 (.skip))))
 (.seq (.reg false [] [⟨.faddr 2 (.t 4), some 64, none⟩,
  ⟨.load false 1 (.t 64), some 65, none⟩,
  ⟨.faddr 0 (.t 4), some 66, none⟩,
  ⟨.load false 1 (.t 66), some 67, none⟩,
  ⟨.call J6j [(.t 65), (.t 67)] 0, some 68, none⟩,
  ⟨.mv (.t 68), some 63, none⟩,
  ⟨.extr (.t 63) 0, some 69, none⟩,
  ⟨.extr (.t 63) 1, some 70, none⟩,
  ⟨.newbox (J3 default), some 5, none⟩,
  ⟨.store 34 (.t 5) (.t 69), none, none⟩,
  ⟨.mv (.t 70), some 6, none⟩])
 (.keep [1, 3, 4, 5, 6] (.seq (.reg false [] [⟨.mv (.t 6), some 71, none⟩,
  ⟨.bin .neq .plain (.t 71) (.c (.p (.i .i64 0))), some 72, none⟩,
  ⟨.mv (.t 72), some 73, none⟩,
  ⟨.faddr 1 (.t 5), some 74, some (73, false)⟩,
  ⟨.load false 1 (.t 74), some 75, some (73, false)⟩,
  ⟨.faddr 1 (.t 4), some 76, some (73, false)⟩,
  ⟨.load false 1 (.t 76), some 77, some (73, false)⟩,
  ⟨.bin .neq .plain (.t 75) (.t 77), some 78, some (73, false)⟩,
  ⟨.pick (.t 73) (.c (.p (.b true))) (.t 78), some 79, none⟩])
 (.keep [1, 3, 79] (.cond (.t 79)
 (.seq (.reg false [] [⟨.mv (.c (.p (.b false))), some 2, none⟩])
  (.ret))
 (.skip))))))))))
 (.reg false [] [⟨.mv (.t 3), some 30, none⟩,
  ⟨.bin .add .plain (.t 30) (.c (.p (.i .i64 1))), some 31, none⟩,
  ⟨.mv (.t 31), some 3, none⟩]))
def Jg8 : Jc := .seq (.reg false [] [⟨.mv (.c (.p (.b true))), some 2, none⟩])
 (.ret)
def J9C : Jc := .seq (.reg false [] [⟨.box 3 (.t 0), some 1, none⟩,
  ⟨.mv (.c (.p (.b false))), some 2, none⟩])
 (.seq (.seq (.reg false [] [⟨.faddr 0 (.t 1), some 7, none⟩,
  ⟨.load false 1 (.t 7), some 8, none⟩,
  ⟨.bin .lss .plain (.t 8) (.c (.p (.i .i64 1))), some 9, none⟩,
  ⟨.mv (.t 9), some 10, none⟩,
  ⟨.faddr 0 (.t 1), some 11, some (10, false)⟩,
  ⟨.load false 1 (.t 11), some 12, some (10, false)⟩,
  ⟨.bin .gtr .plain (.t 12) (.c (.p (.i .i64 1073741824))), some 13, some (10, false)⟩,
  ⟨.pick (.t 10) (.c (.p (.b true))) (.t 13), some 14, none⟩,
  ⟨.mv (.t 14), some 15, none⟩,
  ⟨.faddr 1 (.t 1), some 16, some (15, false)⟩,
  ⟨.load false 1 (.t 16), some 17, some (15, false)⟩,
  ⟨.bin .lss .plain (.t 17) (.c (.p (.i .i64 1))), some 18, some (15, false)⟩,
  ⟨.pick (.t 15) (.c (.p (.b true))) (.t 18), some 19, none⟩,
  ⟨.mv (.t 19), some 20, none⟩,
  ⟨.faddr 1 (.t 1), some 21, some (20, false)⟩,
  ⟨.load false 1 (.t 21), some 22, some (20, false)⟩,
  ⟨.bin .gtr .plain (.t 22) (.c (.p (.i .i64 64))), some 23, some (20, false)⟩,
  ⟨.pick (.t 20) (.c (.p (.b true))) (.t 23), some 24, none⟩])
 (.keep [1, 24] (.cond (.t 24)
 (.seq (.reg false [] [⟨.mv (.c (.p (.b false))), some 2, none⟩])
  (.ret))
 (.skip))))
 (.seq (.tidy [2] (.seq (.reg false [] [⟨.mv (.c (.p (.i .i64 0))), some 3, none⟩])
 (.block 0 (.loop [1, 3] Jh0))))
 (.keep [] Jg8)))
def Jcz : AFn := ⟨1, 80, J9C, [.tmp 2], false⟩
def J9k : Jc := .seq (.reg false [] [⟨.box 3 (.t 0), some 1, none⟩,
  ⟨.mv (.c (.p (.b false))), some 2, none⟩])
 (.seq (.reg false [] [⟨.load true 3 (.t 1), some 3, none⟩,
  ⟨.call J7P [(.t 3)] 0, some 4, none⟩,
  ⟨.mv (.t 4), some 5, none⟩,
  ⟨.faddr 2 (.t 1), some 6, some (5, true)⟩,
  ⟨.load false 1 (.t 6), some 7, some (5, true)⟩,
  ⟨.len false (.t 7), some 8, some (5, true)⟩,
  ⟨.faddr 1 (.t 1), some 9, some (5, true)⟩,
  ⟨.load false 1 (.t 9), some 10, some (5, true)⟩,
  ⟨.bin .eql .plain (.t 8) (.t 10), some 11, some (5, true)⟩,
  ⟨.pick (.t 5) (.t 11) (.c (.p (.b false))), some 12, none⟩,
  ⟨.mv (.t 12), some 2, none⟩])
 (.ret))
def Jcn : AFn := ⟨1, 13, J9k, [.tmp 2], false⟩
def JiQ : Jc := .seq (.reg false [] [⟨.faddr 2 (.t 3), some 72, none⟩,
  ⟨.load false 1 (.t 72), some 73, none⟩,
  ⟨.mv (.t 13), some 74, none⟩,
  ⟨.iaddr 3 (.t 73) (.t 74), some 75, none⟩,
  ⟨.faddr 0 (.t 75), some 76, none⟩,
  ⟨.load false 1 (.t 76), some 77, none⟩,
  ⟨.mv (.t 1), some 78, none⟩,
  ⟨.bin .neq .plain (.t 77) (.t 78), some 79, none⟩])
 (.keep [1, 3, 6, 10, 11, 12, 13, 79] (.cond (.t 79)
 (.reg true [(1, 7)] [⟨.faddr 2 (.t 11), some 80, none⟩,
   ⟨.load false 1 (.t 80), some 81, none⟩,
   ⟨.faddr 2 (.t 3), some 82, none⟩,
   ⟨.load false 1 (.t 82), some 83, none⟩,
   ⟨.mv (.t 13), some 84, none⟩,
   ⟨.iaddr 3 (.t 83) (.t 84), some 85, none⟩,
   ⟨.load true 3 (.t 85), some 86, none⟩,
   ⟨.lits false 3 1 (J7 default) [(0, (.t 86))], some 87, none⟩,
   ⟨.app 3 32 (J7 default) (.t 81) (.t 87), some 88, none⟩,
   ⟨.faddr 2 (.t 11), some 89, none⟩,
   ⟨.store 1 (.t 89) (.t 88), none, none⟩])
 (.skip)))
def JiL : Jc := .reg false [] [⟨.mv (.t 13), some 52, none⟩,
  ⟨.bin .add .plain (.t 52) (.c (.p (.i .i64 1))), some 53, none⟩,
  ⟨.mv (.t 53), some 13, none⟩]
def Jj6 : Jc := .seq (.seq (.reg false [] [⟨.mv (.t 13), some 47, none⟩,
  ⟨.faddr 2 (.t 3), some 48, none⟩,
  ⟨.load false 1 (.t 48), some 49, none⟩,
  ⟨.len false (.t 49), some 50, none⟩,
  ⟨.bin .lss .plain (.t 47) (.t 50), some 51, none⟩])
 (.keep [1, 3, 6, 10, 11, 12, 13, 51] (.cond (.t 51)
 (.skip)
 (.exit 0))))
 (.seq (.block 1 (.seq (.seq (.reg false [] [⟨.mv (.t 12), some 54, none⟩,
  ⟨.un .not (.t 54), some 55, none⟩,
  ⟨.mv (.t 55), some 56, none⟩,
  ⟨.faddr 2 (.t 3), some 57, some (56, true)⟩,
  ⟨.load false 1 (.t 57), some 58, some (56, true)⟩,
  ⟨.mv (.t 13), some 59, some (56, true)⟩,
  ⟨.iaddr 3 (.t 58) (.t 59), some 60, some (56, true)⟩,
  ⟨.faddr 0 (.t 60), some 61, some (56, true)⟩,
  ⟨.load false 1 (.t 61), some 62, some (56, true)⟩,
  ⟨.mv (.t 1), some 63, some (56, true)⟩,
  ⟨.bin .geq .plain (.t 62) (.t 63), some 64, some (56, true)⟩,
  ⟨.pick (.t 56) (.t 64) (.c (.p (.b false))), some 65, none⟩])
 (.keep [1, 3, 6, 10, 11, 12, 13, 65] (.cond (.t 65)
 (.reg false [] [⟨.faddr 2 (.t 11), some 66, none⟩,
   ⟨.load false 1 (.t 66), some 67, none⟩,
   ⟨.load true 3 (.t 10), some 68, none⟩,
   ⟨.lits false 3 1 (J7 default) [(0, (.t 68))], some 69, none⟩,
   ⟨.app 3 32 (J7 default) (.t 67) (.t 69), some 70, none⟩,
   ⟨.faddr 2 (.t 11), some 71, none⟩,
   ⟨.store 1 (.t 71) (.t 70), none, none⟩,
   ⟨.mv (.c (.p (.b true))), some 12, none⟩])
 (.skip))))
 (.keep [1, 3, 6, 10, 11, 12, 13] JiQ)))
 (.keep [1, 3, 6, 10, 11, 12, 13] JiL))
def JiU : Jc := .seq (.reg false [] [⟨.load true 3 (.t 11), some 98, none⟩,
  ⟨.store 3 (.t 6) (.t 98), none, none⟩,
  ⟨.mv (.c (.p (.i .i64 0))), some 7, none⟩])
 (.ret)
def Jjd : Jc := .seq (.seq (.reg false [] [⟨.mv (.t 12), some 90, none⟩,
  ⟨.un .not (.t 90), some 91, none⟩])
 (.cond (.t 91)
 (.reg false [] [⟨.faddr 2 (.t 11), some 92, none⟩,
   ⟨.load false 1 (.t 92), some 93, none⟩,
   ⟨.load true 3 (.t 10), some 94, none⟩,
   ⟨.lits false 3 1 (J7 default) [(0, (.t 94))], some 95, none⟩,
   ⟨.app 3 32 (J7 default) (.t 93) (.t 95), some 96, none⟩,
   ⟨.faddr 2 (.t 11), some 97, none⟩,
   ⟨.store 1 (.t 97) (.t 96), none, none⟩])
 (.skip)))
 (.keep [6, 11] JiU)
def Jbf : Jc := .seq (.reg false [] [⟨.box 3 (.t 0), some 3, none⟩,
  ⟨.newboxo (J4 default) [(2, 3)], some 6, none⟩,
  ⟨.mv (.c (.p (.i .i64 0))), some 7, none⟩])
 (.keep [1, 2, 3, 6] (.seq (.seq (.reg false [] [⟨.load true 3 (.t 3), some 14, none⟩,
  ⟨.call J7P [(.t 14)] 0, some 15, none⟩,
  ⟨.un .not (.t 15), some 16, none⟩])
 (.keep [1, 2, 3, 6, 16] (.cond (.t 16)
 (.seq (.reg false [] [⟨.buildo (J4 default) [] [(2, 3)], some 17, none⟩,
   ⟨.store 3 (.t 6) (.t 17), none, none⟩,
   ⟨.mv (.c (.p (.i .i64 43))), some 7, none⟩])
  (.ret))
 (.skip))))
 (.seq (.seq (.reg false [] [⟨.mv (.t 1), some 18, none⟩,
  ⟨.bin .lss .plain (.t 18) (.c (.p (.i .i64 0))), some 19, none⟩,
  ⟨.mv (.t 19), some 20, none⟩,
  ⟨.mv (.t 1), some 21, some (20, false)⟩,
  ⟨.faddr 1 (.t 3), some 22, some (20, false)⟩,
  ⟨.load false 1 (.t 22), some 23, some (20, false)⟩,
  ⟨.bin .geq .plain (.t 21) (.t 23), some 24, some (20, false)⟩,
  ⟨.pick (.t 20) (.c (.p (.b true))) (.t 24), some 25, none⟩])
 (.keep [1, 2, 3, 6, 25] (.cond (.t 25)
 (.seq (.reg false [] [⟨.buildo (J4 default) [] [(2, 3)], some 26, none⟩,
   ⟨.store 3 (.t 6) (.t 26), none, none⟩,
   ⟨.mv (.c (.p (.i .i64 1))), some 7, none⟩])
  (.ret))
 (.skip))))
 (.seq (.reg false [] [⟨.mv (.t 2), some 28, none⟩,
  ⟨.mv (.t 1), some 29, none⟩,
  ⟨.call J6j [(.t 28), (.t 29)] 0, some 30, none⟩,
  ⟨.mv (.t 30), some 27, none⟩,
  ⟨.extr (.t 27) 0, some 31, none⟩,
  ⟨.extr (.t 27) 1, some 32, none⟩,
  ⟨.newbox (J3 default), some 8, none⟩,
  ⟨.store 34 (.t 8) (.t 31), none, none⟩,
  ⟨.mv (.t 32), some 9, none⟩])
 (.keep [1, 2, 3, 6, 8, 9] (.seq (.seq (.reg false [] [⟨.mv (.t 9), some 33, none⟩,
  ⟨.bin .neq .plain (.t 33) (.c (.p (.i .i64 0))), some 34, none⟩])
 (.cond (.t 34)
 (.seq (.reg false [] [⟨.buildo (J4 default) [] [(2, 3)], some 35, none⟩,
   ⟨.mv (.t 9), some 36, none⟩,
   ⟨.store 3 (.t 6) (.t 35), none, none⟩,
   ⟨.mv (.t 36), some 7, none⟩])
  (.ret))
 (.skip)))
 (.seq (.reg false [] [⟨.mv (.t 1), some 37, none⟩,
  ⟨.faddr 1 (.t 8), some 38, none⟩,
  ⟨.load false 1 (.t 38), some 39, none⟩,
  ⟨.mv (.t 2), some 40, none⟩,
  ⟨.build (J7 default) [(0, 1, (.t 37)), (1, 1, (.t 39)), (2, 1, (.t 40))], some 41, none⟩,
  ⟨.newbox (J7 default), some 10, none⟩,
  ⟨.store 3 (.t 10) (.t 41), none, none⟩])
 (.keep [1, 3, 6, 10] (.seq (.reg false [] [⟨.faddr 0 (.t 3), some 42, none⟩,
  ⟨.load false 1 (.t 42), some 43, none⟩,
  ⟨.faddr 1 (.t 3), some 44, none⟩,
  ⟨.load false 1 (.t 44), some 45, none⟩,
  ⟨.buildo (J4 default) [(0, 1, (.t 43)), (1, 1, (.t 45))] [(2, 3)], some 46, none⟩,
  ⟨.newboxo (J4 default) [(2, 3)], some 11, none⟩,
  ⟨.store 3 (.t 11) (.t 46), none, none⟩])
 (.keep [1, 3, 6, 10, 11] (.seq (.reg false [] [⟨.mv (.c (.p (.b false))), some 12, none⟩])
 (.seq (.seq (.reg false [] [⟨.mv (.c (.p (.i .i64 0))), some 13, none⟩])
 (.block 0 (.loop [1, 3, 6, 10, 11, 12, 13] Jj6)))
 (.keep [6, 10, 11, 12] Jjd)))))))))))))
def JeG : AFn := ⟨3, 99, Jbf, [.cell 6 true 3, .tmp 7], false⟩
def J2S : Jc := .seq (.reg false [] [⟨.mv (.c (.p (.b false))), some 0, none⟩])
 (.seq (.reg false [] [⟨.build (J4 default) [(0, 1, (.c (.p (.i .i64 1)))), (1, 1, (.c (.p (.i .i64 1))))], some 4, none⟩,
  ⟨.call J1a [(.t 4)] 0, some 5, none⟩,
  ⟨.mv (.t 5), some 3, none⟩,
  ⟨.extr (.t 3) 0, some 6, none⟩,
  ⟨.extr (.t 3) 1, some 7, none⟩,
  ⟨.mv (.t 6), some 1, none⟩,
  ⟨.mv (.t 7), some 2, none⟩])
 (.keep [1, 2] (.seq (.reg false [] [⟨.mv (.t 2), some 8, none⟩,
  ⟨.bin .eql .plain (.t 8) (.c (.p (.i .i64 0))), some 9, none⟩,
  ⟨.mv (.t 9), some 10, none⟩,
  ⟨.mv (.t 1), some 11, some (10, true)⟩,
  ⟨.len true (.t 11), some 12, some (10, true)⟩,
  ⟨.bin .eql .plain (.t 12) (.c (.p (.i .i64 20))), some 13, some (10, true)⟩,
  ⟨.pick (.t 10) (.t 13) (.c (.p (.b false))), some 14, none⟩,
  ⟨.mv (.t 14), some 15, none⟩,
  ⟨.build (J4 default) [(0, 1, (.c (.p (.i .i64 1)))), (1, 1, (.c (.p (.i .i64 1))))], some 16, some (15, true)⟩,
  ⟨.call J2P [(.t 16)] 0, some 17, some (15, true)⟩,
  ⟨.pick (.t 15) (.t 17) (.c (.p (.b false))), some 18, none⟩,
  ⟨.mv (.t 18), some 0, none⟩])
 (.ret))))
def J4Y : AFn := ⟨0, 19, J2S, [.tmp 0], false⟩
def J67 : Jc := .reg false [] [⟨.mv (.t 15), some 64, none⟩,
  ⟨.bin .add .plain (.t 64) (.c (.p (.i .i64 1))), some 65, none⟩,
  ⟨.mv (.t 65), some 15, none⟩]
def J01 : Jc := .seq (.seq (.reg false [] [⟨.mv (.t 15), some 60, none⟩,
  ⟨.faddr 1 (.t 6), some 61, none⟩,
  ⟨.load false 1 (.t 61), some 62, none⟩,
  ⟨.bin .lss .plain (.t 60) (.t 62), some 63, none⟩])
 (.keep [5, 6, 7, 8, 14, 15, 63] (.cond (.t 63)
 (.skip)
 (.exit 2))))
 (.seq (.tidy [4, 5, 6, 7, 8, 14, 15] (.block 3 (.seq (.seq (.reg false [] [⟨.load true 3 (.t 6), some 67, none⟩,
  ⟨.mv (.t 15), some 68, none⟩,
  ⟨.call J64 [(.t 67), (.t 68)] 0, some 69, none⟩,
  ⟨.mv (.t 69), some 66, none⟩,
  ⟨.extr (.t 66) 0, some 70, none⟩,
  ⟨.extr (.t 66) 1, some 71, none⟩,
  ⟨.newbox (J7 default), some 16, none⟩,
  ⟨.store 3 (.t 16) (.t 70), none, none⟩,
  ⟨.mv (.t 71), some 17, none⟩])
 (.keep [5, 6, 7, 8, 14, 15, 17] (.seq (.reg false [] [⟨.mv (.t 17), some 72, none⟩,
  ⟨.mv (.t 7), some 73, none⟩,
  ⟨.mv (.t 15), some 74, none⟩,
  ⟨.iaddr 1 (.t 73) (.t 74), some 75, none⟩,
  ⟨.load false 1 (.t 75), some 76, none⟩,
  ⟨.bin .neq .bool (.t 72) (.t 76), some 77, none⟩])
 (.keep [5, 6, 7, 8, 14, 15, 77] (.cond (.t 77)
 (.seq (.reg false [] [⟨.mv (.c (.p (.b false))), some 4, none⟩])
  (.ret))
 (.skip))))))
 (.seq (.reg false [] [⟨.mv (.t 7), some 78, none⟩,
  ⟨.mv (.t 15), some 79, none⟩,
  ⟨.iaddr 1 (.t 78) (.t 79), some 80, none⟩,
  ⟨.load false 1 (.t 80), some 81, none⟩])
 (.keep [5, 6, 7, 8, 14, 15, 81] (.cond (.t 81)
 (.reg false [] [⟨.mv (.t 14), some 82, none⟩,
   ⟨.bin .add .plain (.t 82) (.c (.p (.i .i64 1))), some 83, none⟩,
   ⟨.mv (.t 83), some 14, none⟩])
 (.skip)))))))
 (.keep [5, 6, 7, 8, 14, 15] J67))
def J05 : Jc := .seq (.reg true [(1, 4)] [⟨.load true 3 (.t 6), some 84, none⟩,
  ⟨.call J4a [(.t 84)] 0, some 85, none⟩,
  ⟨.mv (.t 14), some 86, none⟩,
  ⟨.faddr 1 (.t 6), some 87, none⟩,
  ⟨.load false 1 (.t 87), some 88, none⟩,
  ⟨.bin .eql .plain (.t 86) (.t 88), some 89, none⟩,
  ⟨.bin .neq .bool (.t 85) (.t 89), some 90, none⟩,
  ⟨.mv (.t 90), some 91, none⟩,
  ⟨.faddr 2 (.t 6), some 92, some (91, false)⟩,
  ⟨.load false 1 (.t 92), some 93, some (91, false)⟩,
  ⟨.len false (.t 93), some 94, some (91, false)⟩,
  ⟨.mv (.t 14), some 95, some (91, false)⟩,
  ⟨.bin .neq .plain (.t 94) (.t 95), some 96, some (91, false)⟩,
  ⟨.pick (.t 91) (.c (.p (.b true))) (.t 96), some 97, none⟩])
 (.keep [5, 6, 7, 8, 97] (.cond (.t 97)
 (.seq (.reg false [] [⟨.mv (.c (.p (.b false))), some 4, none⟩])
  (.ret))
 (.skip)))
def J0H : Jc := .reg false [] [⟨.mv (.t 8), some 34, none⟩,
  ⟨.bin .sub .plain (.t 34) (.c (.p (.i .i64 1))), some 35, none⟩,
  ⟨.mv (.t 35), some 8, none⟩]
def JI : Jc := .seq (.seq (.reg false [] [⟨.mv (.t 8), some 32, none⟩,
  ⟨.bin .gtr .plain (.t 32) (.c (.p (.i .i64 0))), some 33, none⟩])
 (.cond (.t 33)
 (.skip)
 (.exit 0)))
 (.seq (.tidy [4, 5, 6, 7, 8] (.block 1 (.seq (.reg false [] [⟨.mv (.t 5), some 36, none⟩,
  ⟨.faddr 1 (.t 6), some 37, none⟩,
  ⟨.load false 1 (.t 37), some 38, none⟩,
  ⟨.call Jm [(.t 36), (.t 38)] 0, some 39, none⟩,
  ⟨.mv (.t 39), some 9, none⟩])
 (.keep [5, 6, 7, 8, 9] (.seq (.reg false [] [⟨.mv (.t 5), some 41, none⟩,
  ⟨.mv (.t 9), some 42, none⟩,
  ⟨.call J3n [(.t 41), (.t 42)] 0, some 43, none⟩,
  ⟨.call J3M [(.t 43)] 0, some 44, none⟩,
  ⟨.mv (.t 44), some 40, none⟩,
  ⟨.extr (.t 40) 0, some 45, none⟩,
  ⟨.extr (.t 40) 1, some 46, none⟩,
  ⟨.mv (.t 45), some 10, none⟩,
  ⟨.mv (.t 46), some 11, none⟩])
 (.keep [5, 6, 7, 8, 9, 10] (.seq (.reg false [] [⟨.load true 3 (.t 6), some 48, none⟩,
  ⟨.mv (.t 9), some 49, none⟩,
  ⟨.mv (.t 10), some 50, none⟩,
  ⟨.call J6G [(.t 48), (.t 49), (.t 50)] 0, some 51, none⟩,
  ⟨.mv (.t 51), some 47, none⟩,
  ⟨.extr (.t 47) 0, some 52, none⟩,
  ⟨.extr (.t 47) 1, some 53, none⟩,
  ⟨.newbox (J4 default), some 12, none⟩,
  ⟨.store 3 (.t 12) (.t 52), none, none⟩,
  ⟨.mv (.t 53), some 13, none⟩])
 (.keep [5, 6, 7, 8, 9, 12, 13] (.seq (.seq (.reg false [] [⟨.mv (.t 13), some 54, none⟩,
  ⟨.bin .neq .plain (.t 54) (.c (.p (.i .i64 0))), some 55, none⟩])
 (.cond (.t 55)
 (.seq (.reg false [] [⟨.mv (.c (.p (.b false))), some 4, none⟩])
  (.ret))
 (.skip)))
 (.seq (.reg false [] [⟨.load true 3 (.t 12), some 56, none⟩,
  ⟨.store 3 (.t 6) (.t 56), none, none⟩])
 (.seq (.reg false [] [⟨.mv (.t 7), some 57, none⟩,
  ⟨.mv (.t 9), some 58, none⟩,
  ⟨.iaddr 1 (.t 57) (.t 58), some 59, none⟩,
  ⟨.store 1 (.t 59) (.c (.p (.b true))), none, none⟩])
 (.keep [5, 6, 7, 8] (.seq (.reg false [] [⟨.mv (.c (.p (.i .i64 0))), some 14, none⟩])
 (.seq (.tidy [4, 5, 6, 7, 8, 14] (.seq (.reg false [] [⟨.mv (.c (.p (.i .i64 0))), some 15, none⟩])
 (.block 2 (.loop [5, 6, 7, 8, 14, 15] J01))))
 (.keep [5, 6, 7, 8, 14] J05)))))))))))))))
 (.keep [5, 6, 7, 8] J0H))
def JU : Jc := .seq (.reg false [] [⟨.mv (.c (.p (.b true))), some 4, none⟩])
 (.ret)
def J1Z : Jc := .seq (.reg false [] [⟨.mv (.c (.p (.b false))), some 4, none⟩])
 (.seq (.seq (.reg false [] [⟨.call J5b [] 0, some 18, none⟩,
  ⟨.un .not (.t 18), some 19, none⟩])
 (.cond (.t 19)
 (.seq (.reg false [] [⟨.mv (.c (.p (.b false))), some 4, none⟩])
  (.ret))
 (.skip)))
 (.seq (.reg false [] [⟨.mv (.t 0), some 20, none⟩,
  ⟨.call J7g [(.t 20), (.c (.p (.i .i64 400)))] 1, some 21, none⟩,
  ⟨.mv (.t 21), some 5, none⟩])
 (.keep [1, 5] (.seq (.reg false [] [⟨.mv (.t 1), some 22, none⟩,
  ⟨.conv (.int .i64) (.t 22), some 23, none⟩,
  ⟨.bin .rem .plain (.t 23) (.c (.p (.i .i64 8))), some 24, none⟩,
  ⟨.bin .add .plain (.c (.p (.i .i64 1))) (.t 24), some 25, none⟩,
  ⟨.build (J4 default) [(0, 1, (.c (.p (.i .i64 1)))), (1, 1, (.t 25))], some 26, none⟩,
  ⟨.newbox (J4 default), some 6, none⟩,
  ⟨.store 3 (.t 6) (.t 26), none, none⟩])
 (.keep [5, 6] (.seq (.reg false [] [⟨.faddr 1 (.t 6), some 27, none⟩,
  ⟨.load false 1 (.t 27), some 28, none⟩,
  ⟨.mkslice true 1 1 [(.b false)] (.t 28) (.t 28), some 29, none⟩,
  ⟨.mv (.t 29), some 7, none⟩])
 (.keep [5, 6, 7] (.seq (.tidy [4] (.seq (.reg false [] [⟨.mv (.t 5), some 30, none⟩,
  ⟨.call Jm [(.t 30), (.c (.p (.i .i64 20)))] 0, some 31, none⟩,
  ⟨.mv (.t 31), some 8, none⟩])
 (.keep [5, 6, 7, 8] (.block 0 (.loop [5, 6, 7, 8] JI)))))
 (.keep [] JU)))))))))
def JJ : AFn := ⟨2, 98, J1Z, [.tmp 4], false⟩
theorem Jnj : J6o.res = [.tmp 4] ∧ J6o.fresh = false := ⟨rfl, rfl⟩
theorem J5K : J3m.res = [.tmp 4] ∧ J3m.fresh = false := ⟨rfl, rfl⟩
theorem Jer : J0y.res = [.tmp 2] ∧ J0y.fresh = false := ⟨rfl, rfl⟩
theorem Jb7 : J2F.res = [.tmp 6] ∧ J2F.fresh = false := ⟨rfl, rfl⟩
theorem J6D : J2G.res = [.tmp 6, .tmp 7] ∧ J2G.fresh = false := ⟨rfl, rfl⟩
theorem J9E : J3v.res = [.cell 2 true 2] ∧ J3v.fresh = false := ⟨rfl, rfl⟩
theorem Jj4 : J5m.res = [.tmp 2] ∧ J5m.fresh = false := ⟨rfl, rfl⟩
theorem JlE : J0S.res = [.tmp 2] ∧ J0S.fresh = false := ⟨rfl, rfl⟩
theorem J8G : J29.res = [.tmp 2] ∧ J29.fresh = false := ⟨rfl, rfl⟩
theorem J6V : J48.res = [.tmp 2] ∧ J48.fresh = false := ⟨rfl, rfl⟩
theorem Jdk : J60.res = [.tmp 2] ∧ J60.fresh = false := ⟨rfl, rfl⟩
theorem Jn3 : J7m.res = [.cell 2 true 34] ∧ J7m.fresh = false := ⟨rfl, rfl⟩
theorem Jdt : JS.res = [.cell 0 true 16] ∧ JS.fresh = false := ⟨rfl, rfl⟩
theorem Jfv : J3N.res = [.tmp 4] ∧ J3N.fresh = false := ⟨rfl, rfl⟩
theorem J7w : J3u.res = [.tmp 2] ∧ J3u.fresh = false := ⟨rfl, rfl⟩
theorem Jj5 : J5g.res = [.tmp 6] ∧ J5g.fresh = false := ⟨rfl, rfl⟩
theorem JeI : J2C.res = [.cell 2 true 34, .tmp 3] ∧ J2C.fresh = false := ⟨rfl, rfl⟩
theorem JeA : J0v.res = [.cell 4 true 34] ∧ J0v.fresh = false := ⟨rfl, rfl⟩
theorem Jk5 : J5U.res = [.tmp 0] ∧ J5U.fresh = false := ⟨rfl, rfl⟩
theorem J9p : J5k.res = [.tmp 2] ∧ J5k.fresh = false := ⟨rfl, rfl⟩
theorem Jd4 : J1W.res = [] ∧ J1W.fresh = false := ⟨rfl, rfl⟩
theorem Jlx : J2H.res = [.tmp 2] ∧ J2H.fresh = false := ⟨rfl, rfl⟩
theorem J2c : Jl.res = [.tmp 6, .tmp 7] ∧ Jl.fresh = false := ⟨rfl, rfl⟩
theorem JiV : J5j.res = [.tmp 4, .tmp 5] ∧ J5j.fresh = false := ⟨rfl, rfl⟩
theorem J9n : J1Q.res = [.tmp 2] ∧ J1Q.fresh = false := ⟨rfl, rfl⟩
theorem J9D : J1S.res = [.tmp 2, .tmp 3] ∧ J1S.fresh = false := ⟨rfl, rfl⟩
theorem JcF : J5h.res = [.tmp 2] ∧ J5h.fresh = false := ⟨rfl, rfl⟩
theorem J9v : J51.res = [.tmp 2] ∧ J51.fresh = false := ⟨rfl, rfl⟩
theorem J3C : J54.res = [.cell 2 true 34, .tmp 3] ∧ J54.fresh = false := ⟨rfl, rfl⟩
theorem JbJ : J0Y.res = [.tmp 2, .tmp 3] ∧ J0Y.fresh = false := ⟨rfl, rfl⟩
theorem J5p : J45.res = [.cell 4 true 34, .tmp 5] ∧ J45.fresh = false := ⟨rfl, rfl⟩
theorem J1w : J1N.res = [.tmp 2] ∧ J1N.fresh = false := ⟨rfl, rfl⟩
theorem J7B : J5E.res = [.cell 6 true 3, .tmp 7] ∧ J5E.fresh = false := ⟨rfl, rfl⟩
theorem J6Y : J5P.res = [.cell 4 true 3, .tmp 5] ∧ J5P.fresh = false := ⟨rfl, rfl⟩
theorem Jct : J5c.res = [.tmp 2] ∧ J5c.fresh = false := ⟨rfl, rfl⟩
theorem J9t : J4Y.res = [.tmp 0] ∧ J4Y.fresh = false := ⟨rfl, rfl⟩
theorem J2w : JJ.res = [.tmp 4] ∧ JJ.fresh = false := ⟨rfl, rfl⟩
def fns : List (FuncId × AFn) := [(J7g, J6o), (Jm, J3m), (J3p, J0y), (J35, J2F), (J6E, J2G), (J3r, J3v), (J2T, J5m), (J5F, J0S), (J5S, J29), (J44, J48), (J7F, JeJ), (Jb1, JeK), (J4J, J60), (J7f, J7m), (J2X, JS), (J0b, J3N), (J3o, J3u), (J2O, J5g), (J6B, J2C), (J3n, J0v), (J9r, JcP), (J68, J5U), (J56, J5k), (J0J, J1W), (J3U, J2H), (JP, Jl), (J4f, J5j), (J53, J1Q), (J55, J1S), (J7N, J5h), (J59, J51), (J5l, J54), (J3M, J0Y), (J3l, J45), (J91, Jbt), (J2P, J1N), (J6j, Jam), (J6G, J5E), (J64, J5P), (J4a, J5c), (J7P, Jcz), (JcB, Jcn), (JeU, JeG), (J5b, J4Y), (J4R, JJ)]
def Jgf : List (FuncId × J8q) := [(J0s, J12)]
def JgE : List (FuncId × (List AV → List Blk → Option Res)) := [(J17, JkO), (J1L, JkM), (J0U, (JfP 3 32))]
def lkF {α : Type} (f : FuncId) : List (FuncId × α) → Option α
 | [] => none
 | (g, a) :: r => if f = g then some a else lkF f r
def J1 (prims : FuncId → Option (List AV → List Blk → Option Res)) : J49 := fun f => Jpa (lkF f fns) (lkF f Jgf) (lkF f JgE) (prims f)
theorem Jmt (p) : J1 p J7g = some (.fn J6o) := rfl
theorem Jew (p) : J1 p Jm = some (.fn J3m) := rfl
theorem Jei (p) : J1 p J3p = some (.fn J0y) := rfl
theorem Jld (p) : J1 p J35 = some (.fn J2F) := rfl
theorem Jlf (p) : J1 p J6E = some (.fn J2G) := rfl
theorem Jeq (p) : J1 p J3r = some (.fn J3v) := rfl
theorem JiO (p) : J1 p J2T = some (.fn J5m) := rfl
theorem JlG (p) : J1 p J5F = some (.fn J0S) := rfl
theorem JkH (p) : J1 p J5S = some (.fn J29) := rfl
theorem Jh1 (p) : J1 p J44 = some (.fn J48) := rfl
theorem JkF (p) : J1 p J4J = some (.fn J60) := rfl
theorem JmG (p) : J1 p J7f = some (.fn J7m) := rfl
theorem Jdv (p) : J1 p J2X = some (.fn JS) := rfl
theorem Jfm (p) : J1 p J0b = some (.fn J3N) := rfl
theorem Jej (p) : J1 p J3o = some (.fn J3u) := rfl
theorem Jji (p) : J1 p J2O = some (.fn J5g) := rfl
theorem JlL (p) : J1 p J6B = some (.fn J2C) := rfl
theorem Jek (p) : J1 p J3n = some (.fn J0v) := rfl
theorem JkQ (p) : J1 p J68 = some (.fn J5U) := rfl
theorem JiY (p) : J1 p J56 = some (.fn J5k) := rfl
theorem Jd0 (p) : J1 p J0J = some (.fn J1W) := rfl
theorem Jlz (p) : J1 p J3U = some (.fn J2H) := rfl
theorem J4T (p) : J1 p JP = some (.fn Jl) := rfl
theorem Jj1 (p) : J1 p J4f = some (.fn J5j) := rfl
theorem JiS (p) : J1 p J53 = some (.fn J1Q) := rfl
theorem JiB (p) : J1 p J55 = some (.fn J1S) := rfl
theorem JiW (p) : J1 p J7N = some (.fn J5h) := rfl
theorem Jj2 (p) : J1 p J59 = some (.fn J51) := rfl
theorem Jj8 (p) : J1 p J5l = some (.fn J54) := rfl
theorem Jh8 (p) : J1 p J3M = some (.fn J0Y) := rfl
theorem Jgq (p) : J1 p J3l = some (.fn J45) := rfl
theorem JiN (p) : J1 p J2P = some (.fn J1N) := rfl
theorem Jli (p) : J1 p J6G = some (.fn J5E) := rfl
theorem JkR (p) : J1 p J64 = some (.fn J5P) := rfl
theorem Jjs (p) : J1 p J4a = some (.fn J5c) := rfl
theorem Jjr (p) : J1 p J5b = some (.fn J4Y) := rfl
theorem Jd5 (p) : J1 p J4R = some (.fn JJ) := rfl
theorem J81 (p) : J1 p J0s = some (.fork J12) := rfl
theorem Jl9 (p) : J1 p J17 = some (.prim JkO) := rfl
theorem JfA (p) : J1 p J1L = some (.prim JkM) := rfl
theorem J7E (p) : J1 p J0U = some (.prim (JfP 3 32)) := rfl
end Go.Am
end
section
namespace Go.Am
set_option maxRecDepth 8000
set_option maxHeartbeats 4000000
set_option linter.unusedSimpArgs false
set_option linter.unusedVariables false
noncomputable section
variable (p : FuncId → Option (List AV → List Blk → Option Res))
def JbU  (r : T_pagemenddraw_Codes) : Option Res := some (.ptr 0 0, [.box (List.map AV.p (J0 r))])
def J77 (x0 : List Int) : Option (T_pagemenddraw_Codes) :=
 some (⟨x0, 0⟩ : T_pagemenddraw_Codes)
theorem JdP {x0 : List Int} {o : T_pagemenddraw_Codes} (h : J77 x0 = some o) :
  rk (J1 p) J6o 0 [] (X (J1 p) Jaf ⟨[(0, .p (.sl 1 (List.map (r_i .u8) x0)))], []⟩) = JbU o := by
 unfold J77 at h
 obtain rfl := sj h
 try simp only [↓Da, Ua, Jaf, Jh, Jnj, ↓reduceIte, reduceEqDiff, reduceAdd, reduceLT, reduceMul]
 rfl
def J6b (x0 : List Int) (x1 : Int) : Option (T_pagemenddraw_Codes) :=
 if (decide (((List.length x0 : Nat) : Int) > x1)) then
  Option.bind (J28 x0 none (some x1)) fun m2 =>
  J77 m2
 else
  J77 x0
theorem Jhv {x0 : List Int} {x1 : Int} {o : T_pagemenddraw_Codes} (h : J6b x0 x1 = some o) :
  rk (J1 p) J6o 0 [] (X (J1 p) J7u ⟨[(0, .p (.sl 1 (List.map (r_i .u8) x0))), (1, .p (.i .i64 x1))], []⟩) = JbU o := by
 unfold J6b at h
 rcases Jd h with ⟨h1, h⟩ | ⟨h1, h⟩
 ·obtain ⟨m2, h3, h⟩ := bi h
  have f4 : J7b 1 (.p (.sl 1 (List.map (r_i .u8) x0))) none (some (.p (.i .i64 x1))) = some (.p (.sl 1 (List.map (r_i .u8) m2))) := JnD (k := .i64) (lo := none) (hi := (some x1)) h3
  try simp only [Nf] at f4
  try simp only [↓Da, Ua, J7u, Jh, *, ↓reduceIte, reduceEqDiff, reduceAdd, reduceLT, reduceMul]
  have e0 := JdP p h
  exact e0
 ·try simp only [↓Da, Ua, J7u, Jh, *, ↓reduceIte, reduceEqDiff, reduceAdd, reduceLT, reduceMul]
  have e0 := JdP p h
  exact e0
theorem JmK {x0 : List Int} {x1 : Int} {o : T_pagemenddraw_Codes} (h : J6b x0 x1 = some o) : AF (J1 p) J7g [.p (.sl 1 (List.map (r_i .u8) x0)), .p (.i .i64 x1)] [] = JbU o :=
 (J14 (J1 p) (Jmt p) rfl).trans (Jhv p h)
def J5L  (r : Int × T_pagemenddraw_Codes) : Option Res := some (.p (.i .i64 r.1), [.box (List.map AV.p (J0 r.2))])
def J4Q (rec : T_pagemenddraw_Codes → Int → Option (Int × T_pagemenddraw_Codes)) (b0 : T_pagemenddraw_Codes) (x1 : Int) : Option (Int × T_pagemenddraw_Codes) :=
 if (decide (b0.at_ ≥ ((List.length b0.l_ : Nat) : Int))) then
  some (0, b0)
 else
  if (decide (x1 < 1)) then
   some (0, b0)
  else
   Option.bind (idx b0.l_ b0.at_) fun y3 =>
   if (decide (x1 > 256)) then
    Option.bind (rec (⟨b0.l_, (IntKind.wrap .i64 (b0.at_ + 1))⟩ : T_pagemenddraw_Codes) 256) fun r7 =>
    Option.bind (Jfh (IntKind.wrap .i64 ((IntKind.wrap .i64 (256 * (IntKind.wrap .i64 y3))) + r7.1)) x1) fun q10 =>
    some (q10, r7.2)
   else
    Option.bind (Jfh (IntKind.wrap .i64 y3) x1) fun q12 =>
    some (q12, (⟨b0.l_, (IntKind.wrap .i64 (b0.at_ + 1))⟩ : T_pagemenddraw_Codes))
theorem Jbl {rec : T_pagemenddraw_Codes → Int → Option (Int × T_pagemenddraw_Codes)} (hrec : ∀ {b0 : T_pagemenddraw_Codes} {x1 : Int} {o : Int × T_pagemenddraw_Codes}, rec b0 x1 = some o → AF (J1 p) Jm [.ptr 0 0, .p (.i .i64 x1)] [.box (List.map AV.p (J0 b0))] = J5L o) {b0 : T_pagemenddraw_Codes} {x1 : Int} {o : Int × T_pagemenddraw_Codes} (h : J4Q rec b0 x1 = some o) :
  rk (J1 p) J3m 1 [] (X (J1 p) J16 ⟨[(0, .ptr 0 0), (1, .p (.i .i64 x1))], [.box (List.map AV.p (J0 b0))]⟩) = J5L o := by
 unfold J4Q at h
 rcases Jd h with ⟨h1, h⟩ | ⟨h1, h⟩
 ·obtain rfl := sj h
  try simp only [↓Da, Ua, J16, Jh, J5K, *, ↓reduceIte, reduceEqDiff, reduceAdd, reduceLT, reduceMul]
  rfl
 ·try simp only [↓Da, Ua, J16, Jh, *, ↓reduceIte, reduceEqDiff, reduceAdd, reduceLT, reduceMul]
  rcases Jd h with ⟨h2, h⟩ | ⟨h2, h⟩
  ·obtain rfl := sj h
   try simp only [↓Da, Ua, J16, Jh, J5K, *, ↓reduceIte, reduceEqDiff, reduceAdd, reduceLT, reduceMul]
   rfl
  ·obtain ⟨y3, h4, h⟩ := bi h
   have f5 := J8b (r := (r_i .u8)) h4
   try simp only [Nf] at f5
   try simp only [↓Da, Ua, J16, Jh, *, ↓reduceIte, reduceEqDiff, reduceAdd, reduceLT, reduceMul]
   rcases Jd h with ⟨h6, h⟩ | ⟨h6, h⟩
   ·obtain ⟨r7, h8, h⟩ := bi h
    have f9 : ∀ ws new s, J1o ws s [0] [List.map AV.p (J0 (⟨b0.l_, (IntKind.wrap .i64 (b0.at_ + 1))⟩ : T_pagemenddraw_Codes))] → (Jq (AF (J1 p)) Jm ([.ptr 0 0, .p (.i .i64 256)], ws) 0 new).run s = some ⟨.p (.i .i64 r7.1), ws ++ [(0, .box (List.map AV.p (J0 r7.2)))]⟩ := J0K (args' := [.ptr 0 0, .p (.i .i64 256)]) (bs := [0]) (css := [List.map AV.p (J0 (⟨b0.l_, (IntKind.wrap .i64 (b0.at_ + 1))⟩ : T_pagemenddraw_Codes))]) (css' := [List.map AV.p (J0 r7.2)]) rfl rfl rfl (by simp [JN, Jr]) (hrec h8) rfl rfl (by simp [JN, Jr])
    try simp only [Nf] at f9
    obtain ⟨q10, h11, h⟩ := bi h
    obtain rfl := sj h
    try simp only [↓Da, Ua, J16, Jh, J5K, *, ↓reduceIte, reduceEqDiff, reduceAdd, reduceLT, reduceMul]
    rfl
   ·obtain ⟨q12, h13, h⟩ := bi h
    obtain rfl := sj h
    try simp only [↓Da, Ua, J16, Jh, J5K, *, ↓reduceIte, reduceEqDiff, reduceAdd, reduceLT, reduceMul]
    rfl
def J3G : Nat → T_pagemenddraw_Codes → Int → Option (Int × T_pagemenddraw_Codes)
 | 0 => fun _ _ => none
 | n + 1 => J4Q (J3G n)
def J06 : T_pagemenddraw_Codes → Int → Option (Int × T_pagemenddraw_Codes) := J3G 12
theorem J8Q : ∀ n, ∀ {b0 : T_pagemenddraw_Codes} {x1 : Int} {o : Int × T_pagemenddraw_Codes}, J3G n b0 x1 = some o → AF (J1 p) Jm [.ptr 0 0, .p (.i .i64 x1)] [.box (List.map AV.p (J0 b0))] = J5L o
 | 0 => fun h => by cases h
 | n + 1 => fun h => (J14 (J1 p) (Jew p) rfl).trans (Jbl p (J8Q n) h)
theorem J0u {b0 : T_pagemenddraw_Codes} {x1 : Int} {o : Int × T_pagemenddraw_Codes} (h : J06 b0 x1 = some o) : AF (J1 p) Jm [.ptr 0 0, .p (.i .i64 x1)] [.box (List.map AV.p (J0 b0))] = J5L o := J8Q p 12 h
def J2j  (r : (List UInt8) × T_pagemenddraw_Codes) : Option Res := some (.p (.s r.1), [.box (List.map AV.p (J0 r.2))])
def Jd6 (x3 : Int) (w1 : Bool) (o : (Int × T_pagemenddraw_Codes × (List Int)) ⊕ ((List UInt8) × T_pagemenddraw_Codes)) : Option Res := match o with
 | .inl s => rk (J1 p) J0y 1 [.bl 0, .sq (.keep [4] J1Y)] (X (J1 p) (.lp 2 [0, 3, 4, 5] J1t) ⟨[(0, .ptr 0 0), (3, .p (.i .i64 x3)), (4, .slr 1 0 (List.length s.2.2)), (5, .p (.i .i64 s.1))], [.box (List.map AV.p (J0 s.2.1)), .arr w1 1 (List.map (r_i .u8) s.2.2)]⟩)
 | .inr o => J2j o
def J4P (b0 : T_pagemenddraw_Codes) (l1 : List Int) : Option ((List UInt8) × T_pagemenddraw_Codes) :=
 some ((toStr l1), b0)
theorem Jd2 {b0 : T_pagemenddraw_Codes} {l1 : List Int} {w1 : Bool} {o : (List UInt8) × T_pagemenddraw_Codes} (h : J4P b0 l1 = some o) :
  rk (J1 p) J0y 1 [] (X (J1 p) J1Y ⟨[(4, .slr 1 0 (List.length l1))], [.box (List.map AV.p (J0 b0)), .arr w1 1 (List.map (r_i .u8) l1)]⟩) = J2j o := by
 unfold J4P at h
 obtain rfl := sj h
 try simp only [↓Da, Ua, J1Y, Jer, ↓reduceIte, reduceEqDiff, reduceAdd, reduceLT, reduceMul]
 rfl
def J21 (x3 x5 : Int) (b0 : T_pagemenddraw_Codes) (l1 : List Int) : Option (((Int × T_pagemenddraw_Codes × (List Int)) ⊕ ((List UInt8) × T_pagemenddraw_Codes))) :=
 if (decide (x5 < x3)) then
  Option.bind (J06 b0 3) fun r2 =>
  Option.bind (Jbc 1 l1 ([(IntKind.wrap .u8 (IntKind.wrap .i64 (97 + r2.1)))] : List Int)) fun m5 =>
  some (.inl ((IntKind.wrap .i64 (x5 + 1)), r2.2, m5))
 else
  Option.map (fun o => .inr o) (J4P b0 l1)
theorem J8O {x3 x5 : Int} {b0 : T_pagemenddraw_Codes} {l1 : List Int} {w1 : Bool} {o : ((Int × T_pagemenddraw_Codes × (List Int)) ⊕ ((List UInt8) × T_pagemenddraw_Codes))} (h : J21 x3 x5 b0 l1 = some o) :
  rk (J1 p) J0y 1 [.lo 2 [0, 3, 4, 5] J1t, .bl 0, .sq (.keep [4] J1Y)] (X (J1 p) J1t ⟨[(0, .ptr 0 0), (3, .p (.i .i64 x3)), (4, .slr 1 0 (List.length l1)), (5, .p (.i .i64 x5))], [.box (List.map AV.p (J0 b0)), .arr w1 1 (List.map (r_i .u8) l1)]⟩) = (Jd6 p x3 w1) o := by
 unfold J21 at h
 rcases Jd h with ⟨h1, h⟩ | ⟨h1, h⟩
 ·obtain ⟨r2, h3, h⟩ := bi h
  have f4 : ∀ ws new s, J1o ws s [0] [List.map AV.p (J0 b0)] → (Jq (AF (J1 p)) Jm ([.ptr 0 0, .p (.i .i64 3)], ws) 0 new).run s = some ⟨.p (.i .i64 r2.1), ws ++ [(0, .box (List.map AV.p (J0 r2.2)))]⟩ := J0K (args' := [.ptr 0 0, .p (.i .i64 3)]) (bs := [0]) (css := [List.map AV.p (J0 b0)]) (css' := [List.map AV.p (J0 r2.2)]) rfl rfl rfl (by simp [JN, Jr]) (J0u p h3) rfl rfl (by simp [JN, Jr])
  try simp only [Nf] at f4
  obtain ⟨m5, h6, h⟩ := bi h
  have f7 : ∀ s : St, s.sto[1]? = some (.arr w1 1 (List.map (r_i .u8) l1)) → (J00 1 (.p (.sl 1 (List.map (r_i .u8) ([(IntKind.wrap .u8 (IntKind.wrap .i64 (97 + r2.1)))] : List Int))))).run s = some (List.map (r_i .u8) ([(IntKind.wrap .u8 (IntKind.wrap .i64 (97 + r2.1)))] : List Int)) → (J4w 1 1 (.slr 1 0 (List.length l1)) (.p (.sl 1 (List.map (r_i .u8) ([(IntKind.wrap .u8 (IntKind.wrap .i64 (97 + r2.1)))] : List Int))))).run s = some ⟨.slr 1 0 (List.length m5), [(1, .arr w1 1 (List.map (r_i .u8) m5))]⟩ := by
   intro s e1 e2; have e3 := Jrf h6 e1 e2; try simp only [List.length_cons, List.length_nil, Nat.zero_add] at e3
   exact e3
  try simp only [Nf] at f7
  obtain rfl := sj h
  try simp only [↓Da, Ua, J1t, Jh, *, ↓reduceIte, reduceEqDiff, reduceAdd, reduceLT, reduceMul]
  rfl
 ·obtain ⟨o', h', rfl⟩ := mi h
  try simp only [↓Da, Ua, J1t, Jh, *, ↓reduceIte, reduceEqDiff, reduceAdd, reduceLT, reduceMul]
  have e0 := Jd2 p (w1 := w1) h'
  exact e0
def J8N (x3 : Int) (s : Int × T_pagemenddraw_Codes × (List Int)) : Option ((List UInt8) × T_pagemenddraw_Codes) :=
 Ju (fun s => J21 x3 s.1 s.2.1 s.2.2) s
theorem Jbu {x3 : Int} {w1 : Bool} {s : Int × T_pagemenddraw_Codes × (List Int)} {o : (List UInt8) × T_pagemenddraw_Codes} (h : J8N x3 s = some o) :
  rk (J1 p) J0y 1 [.bl 0, .sq (.keep [4] J1Y)] (X (J1 p) (.lp 2 [0, 3, 4, 5] J1t) ⟨[(0, .ptr 0 0), (3, .p (.i .i64 x3)), (4, .slr 1 0 (List.length s.2.2)), (5, .p (.i .i64 s.1))], [.box (List.map AV.p (J0 s.2.1)), .arr w1 1 (List.map (r_i .u8) s.2.2)]⟩) = J2j o := by
 have h0 : Ju (fun s => J21 x3 s.1 s.2.1 s.2.2) s = some o := h
 exact J0T (P := fun (s : Int × T_pagemenddraw_Codes × (List Int)) (o : (List UInt8) × T_pagemenddraw_Codes) => rk (J1 p) J0y 1 [.bl 0, .sq (.keep [4] J1Y)] (X (J1 p) (.lp 2 [0, 3, 4, 5] J1t) ⟨[(0, .ptr 0 0), (3, .p (.i .i64 x3)), (4, .slr 1 0 (List.length s.2.2)), (5, .p (.i .i64 s.1))], [.box (List.map AV.p (J0 s.2.1)), .arr w1 1 (List.map (r_i .u8) s.2.2)]⟩) = J2j o) (fun s r hs => by rw [J19]; exact J8O p hs) (fun s s1 r hs ih => by rw [J19]; exact (J8O p hs).trans ih) h0
def J2B (x3 : Int) (b0 : T_pagemenddraw_Codes) : Option ((List UInt8) × T_pagemenddraw_Codes) :=
 Option.bind (mkS 1 0 x3 0) fun m1 =>
 J8N x3 (0, b0, m1)
theorem J8R {x3 : Int} {b0 : T_pagemenddraw_Codes} {o : (List UInt8) × T_pagemenddraw_Codes} (h : J2B x3 b0 = some o) :
  rk (J1 p) J0y 1 [] (X (J1 p) J6O ⟨[(0, .ptr 0 0), (3, .p (.i .i64 x3))], [.box (List.map AV.p (J0 b0))]⟩) = J2j o := by
 unfold J2B at h
 obtain ⟨m1, h2, h⟩ := bi h
 have f3 : (0 ≤ (0 : Int) ∧ (0 : Int) ≤ x3 ∧ ((1 : Nat) : Int) * x3 ≤ 281474976710656 ∧ (x3 : Int) ≤ 281474976710656) = True := eq_true (J86 h2).1
 have f4 : List.replicate (Int.toNat 0) ((r_i .u8) 0) = List.map (r_i .u8) m1 := by rw [(J86 h2).2, List.map_replicate]
 try simp only [Nf] at f4
 have g5 : List.length m1 = Int.toNat 0 := by rw [(J86 h2).2, List.length_replicate]
 try simp only [↓Da, Ua, J6O, *, ↓reduceIte, reduceEqDiff, reduceAdd, reduceLT, reduceMul]
 have e0 := Jbu p (w1 := true) h
 try simp only [g5] at e0
 exact e0
def J3q (b0 : T_pagemenddraw_Codes) : Option ((List UInt8) × T_pagemenddraw_Codes) :=
 Option.bind (J06 b0 5) fun r1 =>
 Option.bind (J06 r1.2 6) fun r4 =>
 if ((r4.1 : Int) == 0) then
  Option.bind (J06 r4.2 14) fun r8 =>
  J2B r8.1 r8.2
 else
  J2B r1.1 r4.2
theorem Jbw {b0 : T_pagemenddraw_Codes} {o : (List UInt8) × T_pagemenddraw_Codes} (h : J3q b0 = some o) :
  rk (J1 p) J0y 1 [] (X (J1 p) J2n ⟨[(0, .ptr 0 0)], [.box (List.map AV.p (J0 b0))]⟩) = J2j o := by
 unfold J3q at h
 obtain ⟨r1, h2, h⟩ := bi h
 have f3 : ∀ ws new s, J1o ws s [0] [List.map AV.p (J0 b0)] → (Jq (AF (J1 p)) Jm ([.ptr 0 0, .p (.i .i64 5)], ws) 0 new).run s = some ⟨.p (.i .i64 r1.1), ws ++ [(0, .box (List.map AV.p (J0 r1.2)))]⟩ := J0K (args' := [.ptr 0 0, .p (.i .i64 5)]) (bs := [0]) (css := [List.map AV.p (J0 b0)]) (css' := [List.map AV.p (J0 r1.2)]) rfl rfl rfl (by simp [JN, Jr]) (J0u p h2) rfl rfl (by simp [JN, Jr])
 try simp only [Nf] at f3
 obtain ⟨r4, h5, h⟩ := bi h
 have f6 : ∀ ws new s, J1o ws s [0] [List.map AV.p (J0 r1.2)] → (Jq (AF (J1 p)) Jm ([.ptr 0 0, .p (.i .i64 6)], ws) 0 new).run s = some ⟨.p (.i .i64 r4.1), ws ++ [(0, .box (List.map AV.p (J0 r4.2)))]⟩ := J0K (args' := [.ptr 0 0, .p (.i .i64 6)]) (bs := [0]) (css := [List.map AV.p (J0 r1.2)]) (css' := [List.map AV.p (J0 r4.2)]) rfl rfl rfl (by simp [JN, Jr]) (J0u p h5) rfl rfl (by simp [JN, Jr])
 try simp only [Nf] at f6
 try simp only [↓Da, Ua, J2n, Jh, *, ↓reduceIte, reduceEqDiff, reduceAdd, reduceLT, reduceMul]
 rcases Jd h with ⟨h7, h⟩ | ⟨h7, h⟩
 ·have h7n : ((r4.1 : Int) != 0) = false := by rw [bne, h7]; rfl
  obtain ⟨r8, h9, h⟩ := bi h
  have f10 : ∀ ws new s, J1o ws s [0] [List.map AV.p (J0 r4.2)] → (Jq (AF (J1 p)) Jm ([.ptr 0 0, .p (.i .i64 14)], ws) 0 new).run s = some ⟨.p (.i .i64 r8.1), ws ++ [(0, .box (List.map AV.p (J0 r8.2)))]⟩ := J0K (args' := [.ptr 0 0, .p (.i .i64 14)]) (bs := [0]) (css := [List.map AV.p (J0 r4.2)]) (css' := [List.map AV.p (J0 r8.2)]) rfl rfl rfl (by simp [JN, Jr]) (J0u p h9) rfl rfl (by simp [JN, Jr])
  try simp only [Nf] at f10
  try simp only [↓Da, Ua, J2n, Jh, *, ↓reduceIte, reduceEqDiff, reduceAdd, reduceLT, reduceMul]
  have e0 := J8R p h
  exact e0
 ·have h7n : ((r4.1 : Int) != 0) = true := by rw [bne, h7]; rfl
  try simp only [↓Da, Ua, J2n, Jh, *, ↓reduceIte, reduceEqDiff, reduceAdd, reduceLT, reduceMul]
  have e0 := J8R p h
  exact e0
theorem Jeo {b0 : T_pagemenddraw_Codes} {o : (List UInt8) × T_pagemenddraw_Codes} (h : J3q b0 = some o) : AF (J1 p) J3p [.ptr 0 0] [.box (List.map AV.p (J0 b0))] = J2j o :=
 (J14 (J1 p) (Jei p) rfl).trans (Jbw p h)
def JeL (r : List UInt8) : Option Res := some (.p (.s r), [])
def J0i (x0 : List UInt8) (x1 x2 : Int) : Option (List UInt8) := Jdp x0 x1 x2
theorem JeQ {x0 : List UInt8} {x1 x2 : Int} {o : List UInt8} (h : J0i x0 x1 x2 = some o) : AF (J1 p) J17 [.p (.s x0), .p (.i .i64 x1), .p (.i .i64 x2)] [] = JeL o := by
 rw [JdT (Jl9 p)]
 have h' : Jdp x0 x1 x2 = some o := h
 simp only [JkO, h', Option.map_some, JeL]
theorem J5D {x0 : List UInt8} {x1 x2 : Int} {o : List UInt8} (h : J0i x0 x1 x2 = some o) : ∀ ws new st, (Jq (AF (J1 p)) J17 ([.p (.s x0), .p (.i .i64 x1), .p (.i .i64 x2)], ws) 0 new).run st = some ⟨.p (.s o), ws⟩ := JE rfl (JeQ p h) rfl
def J6F  (r : (List UInt8)) : Option Res := some (.p (.s r), [])
def Jjp (x1 x2 : Int) (o : ((List UInt8) × Int) ⊕ ((List UInt8))) : Option Res := match o with
 | .inl s => rk (J1 p) J2F 0 [.bl 0, .sq (.keep [0] J4b)] (X (J1 p) (.lp 0 [0, 1, 2, 7] J3B) ⟨[(0, .p (.s s.1)), (1, .p (.i .i64 x1)), (2, .p (.i .i64 x2)), (7, .p (.i .i64 s.2))], []⟩)
 | .inr o => J6F o
def J7U (x0 : List UInt8) : Option ((List UInt8)) :=
 some x0
theorem JiF {x0 : List UInt8} {o : (List UInt8)} (h : J7U x0 = some o) :
  rk (J1 p) J2F 0 [] (X (J1 p) J4b ⟨[(0, .p (.s x0))], []⟩) = J6F o := by
 unfold J7U at h
 obtain rfl := sj h
 try simp only [↓Da, Ua, J4b, Jb7, ↓reduceIte, reduceEqDiff, reduceAdd, reduceLT, reduceMul]
 rfl
def J4i (x1 x2 : Int) (x0 : List UInt8) (x7 : Int) : Option ((((List UInt8) × Int) ⊕ ((List UInt8)))) :=
 if (decide (x7 < x2)) then
  Option.bind (J6P .u64 (IntKind.wrap .u64 x1) (IntKind.wrap .u64 (IntKind.wrap .i64 (8 * x7)))) fun q2 =>
  Option.bind (J3e x0 (toStr ([(IntKind.wrap .u8 q2)] : List Int))) fun s5 =>
  some (.inl (s5, (IntKind.wrap .i64 (x7 + 1))))
 else
  Option.map (fun o => .inr o) (J7U x0)
theorem JcE {x1 x2 : Int} {x0 : List UInt8} {x7 : Int} {o : (((List UInt8) × Int) ⊕ ((List UInt8)))} (h : J4i x1 x2 x0 x7 = some o) :
  rk (J1 p) J2F 0 [.lo 0 [0, 1, 2, 7] J3B, .bl 0, .sq (.keep [0] J4b)] (X (J1 p) J3B ⟨[(0, .p (.s x0)), (1, .p (.i .i64 x1)), (2, .p (.i .i64 x2)), (7, .p (.i .i64 x7))], []⟩) = (Jjp p x1 x2) o := by
 unfold J4i at h
 rcases Jd h with ⟨h1, h⟩ | ⟨h1, h⟩
 ·obtain ⟨q2, h3, h⟩ := bi h
  have f4 : ∀ env sto new, (cvR .toStr (.p (.sl 1 (List.map (r_i .u8) ([(IntKind.wrap .u8 q2)] : List Int)))) new).run ⟨env, sto⟩ = some ⟨.p (.s (toStr ([(IntKind.wrap .u8 q2)] : List Int))), []⟩ := fun env sto new => Jsy env sto _ new
  try simp only [Nf] at f4
  obtain ⟨s5, h6, h⟩ := bi h
  obtain rfl := sj h
  try simp only [↓Da, Ua, J3B, *, ↓reduceIte, reduceEqDiff, reduceAdd, reduceLT, reduceMul]
  rfl
 ·obtain ⟨o', h', rfl⟩ := mi h
  try simp only [↓Da, Ua, J3B, *, ↓reduceIte, reduceEqDiff, reduceAdd, reduceLT, reduceMul]
  have e0 := JiF p h'
  exact e0
def JcQ (x1 x2 : Int) (s : (List UInt8) × Int) : Option ((List UInt8)) :=
 Ju (fun s => J4i x1 x2 s.1 s.2) s
theorem JgD {x1 x2 : Int} {s : (List UInt8) × Int} {o : (List UInt8)} (h : JcQ x1 x2 s = some o) :
  rk (J1 p) J2F 0 [.bl 0, .sq (.keep [0] J4b)] (X (J1 p) (.lp 0 [0, 1, 2, 7] J3B) ⟨[(0, .p (.s s.1)), (1, .p (.i .i64 x1)), (2, .p (.i .i64 x2)), (7, .p (.i .i64 s.2))], []⟩) = J6F o := by
 have h0 : Ju (fun s => J4i x1 x2 s.1 s.2) s = some o := h
 exact J0T (P := fun (s : (List UInt8) × Int) (o : (List UInt8)) => rk (J1 p) J2F 0 [.bl 0, .sq (.keep [0] J4b)] (X (J1 p) (.lp 0 [0, 1, 2, 7] J3B) ⟨[(0, .p (.s s.1)), (1, .p (.i .i64 x1)), (2, .p (.i .i64 x2)), (7, .p (.i .i64 s.2))], []⟩) = J6F o) (fun s r hs => by rw [J19]; exact JcE p hs) (fun s s1 r hs ih => by rw [J19]; exact (JcE p hs).trans ih) h0
def J18 (x0 : List UInt8) (x1 x2 : Int) : Option ((List UInt8)) :=
 if (decide (x2 < 1)) then
  some x0
 else
  if (decide (x2 > 8)) then
   some x0
  else
   JcQ x1 x2 (x0, 0)
theorem Jge {x0 : List UInt8} {x1 x2 : Int} {o : (List UInt8)} (h : J18 x0 x1 x2 = some o) :
  rk (J1 p) J2F 0 [] (X (J1 p) J4B ⟨[(0, .p (.s x0)), (1, .p (.i .i64 x1)), (2, .p (.i .i64 x2))], []⟩) = J6F o := by
 unfold J18 at h
 rcases Jd h with ⟨h1, h⟩ | ⟨h1, h⟩
 ·obtain rfl := sj h
  try simp only [↓Da, Ua, J4B, Jb7, *, ↓reduceIte, reduceEqDiff, reduceAdd, reduceLT, reduceMul]
  rfl
 ·try simp only [↓Da, Ua, J4B, *, ↓reduceIte, reduceEqDiff, reduceAdd, reduceLT, reduceMul]
  rcases Jd h with ⟨h2, h⟩ | ⟨h2, h⟩
  ·obtain rfl := sj h
   try simp only [↓Da, Ua, J4B, Jb7, *, ↓reduceIte, reduceEqDiff, reduceAdd, reduceLT, reduceMul]
   rfl
  ·try simp only [↓Da, Ua, J4B, *, ↓reduceIte, reduceEqDiff, reduceAdd, reduceLT, reduceMul]
   have e0 := JgD p h
   exact e0
theorem Jln {x0 : List UInt8} {x1 x2 : Int} {o : (List UInt8)} (h : J18 x0 x1 x2 = some o) : AF (J1 p) J35 [.p (.s x0), .p (.i .i64 x1), .p (.i .i64 x2)] [] = J6F o :=
 (J14 (J1 p) (Jld p) rfl).trans (Jge p h)
theorem J7y {x0 : List UInt8} {x1 x2 : Int} {o : (List UInt8)} (h : J18 x0 x1 x2 = some o) : ∀ ws new st, (Jq (AF (J1 p)) J35 ([.p (.s x0), .p (.i .i64 x1), .p (.i .i64 x2)], ws) 0 new).run st = some ⟨.p (.s o), ws⟩ := JE rfl (Jln p h) rfl
def J6z  (r : Int × Int) : Option Res := some (.tup [.p (.i .i64 r.1), .p (.i .i64 r.2)], [])
def Jiw (x0 : List UInt8) (x1 x34 : Int) (o : (Int × Int) ⊕ (Int × Int)) : Option Res := match o with
 | .inl s => rk (J1 p) J2G 0 [.bl 1, .sq (.keep [8] J4g)] (X (J1 p) (.lp 0 [0, 1, 8, 34, 35] J3x) ⟨[(0, .p (.s x0)), (1, .p (.i .i64 x1)), (8, .p (.i .u64 s.1)), (34, .p (.i .i64 x34)), (35, .p (.i .i64 s.2))], []⟩)
 | .inr o => J6z o
def J4p (x8 : Int) : Option (Int × Int) :=
 some ((IntKind.wrap .i64 x8), 0)
theorem JiD {x8 : Int} {o : Int × Int} (h : J4p x8 = some o) :
  rk (J1 p) J2G 0 [] (X (J1 p) J4g ⟨[(8, .p (.i .u64 x8))], []⟩) = J6z o := by
 unfold J4p at h
 obtain rfl := sj h
 try simp only [↓Da, Ua, J4g, J6D, ↓reduceIte, reduceEqDiff, reduceAdd, reduceLT, reduceMul]
 rfl
def J0a (x0 : List UInt8) (x1 x34 : Int) (x8 x35 : Int) : Option (((Int × Int) ⊕ (Int × Int))) :=
 if (decide (x35 < x34)) then
  Option.bind (Jb0 x0 (IntKind.wrap .i64 (x1 + x35))) fun c2 =>
  Option.bind (Jbb .u64 (IntKind.wrap .u64 c2) (IntKind.wrap .i64 (8 * x35))) fun q4 =>
  some (.inl ((orI .u64 x8 q4), (IntKind.wrap .i64 (x35 + 1))))
 else
  Option.map (fun o => .inr o) (J4p x8)
theorem Jcp {x0 : List UInt8} {x1 x34 : Int} {x8 x35 : Int} {o : ((Int × Int) ⊕ (Int × Int))} (h : J0a x0 x1 x34 x8 x35 = some o) :
  rk (J1 p) J2G 0 [.lo 0 [0, 1, 8, 34, 35] J3x, .bl 1, .sq (.keep [8] J4g)] (X (J1 p) J3x ⟨[(0, .p (.s x0)), (1, .p (.i .i64 x1)), (8, .p (.i .u64 x8)), (34, .p (.i .i64 x34)), (35, .p (.i .i64 x35))], []⟩) = (Jiw p x0 x1 x34) o := by
 unfold J0a at h
 rcases Jd h with ⟨h1, h⟩ | ⟨h1, h⟩
 ·obtain ⟨c2, h3, h⟩ := bi h
  obtain ⟨q4, h5, h⟩ := bi h
  obtain rfl := sj h
  try simp only [↓Da, Ua, J3x, *, ↓reduceIte, reduceEqDiff, reduceAdd, reduceLT, reduceMul]
  rfl
 ·obtain ⟨o', h', rfl⟩ := mi h
  try simp only [↓Da, Ua, J3x, *, ↓reduceIte, reduceEqDiff, reduceAdd, reduceLT, reduceMul]
  have e0 := JiD p h'
  exact e0
def J9B (x0 : List UInt8) (x1 x34 : Int) (s : Int × Int) : Option (Int × Int) :=
 Ju (fun s => J0a x0 x1 x34 s.1 s.2) s
theorem Jh3 {x0 : List UInt8} {x1 x34 : Int} {s o : Int × Int} (h : J9B x0 x1 x34 s = some o) :
  rk (J1 p) J2G 0 [.bl 1, .sq (.keep [8] J4g)] (X (J1 p) (.lp 0 [0, 1, 8, 34, 35] J3x) ⟨[(0, .p (.s x0)), (1, .p (.i .i64 x1)), (8, .p (.i .u64 s.1)), (34, .p (.i .i64 x34)), (35, .p (.i .i64 s.2))], []⟩) = J6z o := by
 have h0 : Ju (fun s => J0a x0 x1 x34 s.1 s.2) s = some o := h
 exact J0T (P := fun (s : Int × Int) (o : Int × Int) => rk (J1 p) J2G 0 [.bl 1, .sq (.keep [8] J4g)] (X (J1 p) (.lp 0 [0, 1, 8, 34, 35] J3x) ⟨[(0, .p (.s x0)), (1, .p (.i .i64 x1)), (8, .p (.i .u64 s.1)), (34, .p (.i .i64 x34)), (35, .p (.i .i64 s.2))], []⟩) = J6z o) (fun s r hs => by rw [J19]; exact Jcp p hs) (fun s s1 r hs ih => by rw [J19]; exact (Jcp p hs).trans ih) h0
def J09 (x0 : List UInt8) (x1 x2 : Int) : Option (Int × Int) :=
 if (decide (x2 < 1)) then
  some (0, 1)
 else
  if (decide (x2 > 8)) then
   some (0, 1)
  else
   if (decide (x1 < 0)) then
    some (0, 1)
   else
    if (decide (x1 > ((List.length x0 : Nat) : Int))) then
     some (0, 5)
    else
     if (decide ((IntKind.wrap .i64 (((List.length x0 : Nat) : Int) - x1)) < x2)) then
      some (0, 5)
     else
      J9B x0 x1 x2 (0, 0)
theorem JgI {x0 : List UInt8} {x1 x2 : Int} {o : Int × Int} (h : J09 x0 x1 x2 = some o) :
  rk (J1 p) J2G 0 [] (X (J1 p) J1G ⟨[(0, .p (.s x0)), (1, .p (.i .i64 x1)), (2, .p (.i .i64 x2))], []⟩) = J6z o := by
 unfold J09 at h
 rcases Jd h with ⟨h1, h⟩ | ⟨h1, h⟩
 ·obtain rfl := sj h
  try simp only [↓Da, Ua, J1G, J6D, *, ↓reduceIte, reduceEqDiff, reduceAdd, reduceLT, reduceMul]
  rfl
 ·try simp only [↓Da, Ua, J1G, *, ↓reduceIte, reduceEqDiff, reduceAdd, reduceLT, reduceMul]
  rcases Jd h with ⟨h2, h⟩ | ⟨h2, h⟩
  ·obtain rfl := sj h
   try simp only [↓Da, Ua, J1G, J6D, *, ↓reduceIte, reduceEqDiff, reduceAdd, reduceLT, reduceMul]
   rfl
  ·try simp only [↓Da, Ua, J1G, *, ↓reduceIte, reduceEqDiff, reduceAdd, reduceLT, reduceMul]
   rcases Jd h with ⟨h3, h⟩ | ⟨h3, h⟩
   ·obtain rfl := sj h
    try simp only [↓Da, Ua, J1G, J6D, *, ↓reduceIte, reduceEqDiff, reduceAdd, reduceLT, reduceMul]
    rfl
   ·try simp only [↓Da, Ua, J1G, *, ↓reduceIte, reduceEqDiff, reduceAdd, reduceLT, reduceMul]
    rcases Jd h with ⟨h4, h⟩ | ⟨h4, h⟩
    ·obtain rfl := sj h
     try simp only [↓Da, Ua, J1G, J6D, *, ↓reduceIte, reduceEqDiff, reduceAdd, reduceLT, reduceMul]
     rfl
    ·try simp only [↓Da, Ua, J1G, *, ↓reduceIte, reduceEqDiff, reduceAdd, reduceLT, reduceMul]
     rcases Jd h with ⟨h5, h⟩ | ⟨h5, h⟩
     ·obtain rfl := sj h
      try simp only [↓Da, Ua, J1G, J6D, *, ↓reduceIte, reduceEqDiff, reduceAdd, reduceLT, reduceMul]
      rfl
     ·try simp only [↓Da, Ua, J1G, *, ↓reduceIte, reduceEqDiff, reduceAdd, reduceLT, reduceMul]
      have e0 := Jh3 p h
      exact e0
theorem JlK {x0 : List UInt8} {x1 x2 : Int} {o : Int × Int} (h : J09 x0 x1 x2 = some o) : AF (J1 p) J6E [.p (.s x0), .p (.i .i64 x1), .p (.i .i64 x2)] [] = J6z o :=
 (J14 (J1 p) (Jlf p) rfl).trans (JgI p h)
theorem Jl4 {x0 : List UInt8} {x1 x2 : Int} {o : Int × Int} (h : J09 x0 x1 x2 = some o) : ∀ ws new st, (Jq (AF (J1 p)) J6E ([.p (.s x0), .p (.i .i64 x1), .p (.i .i64 x2)], ws) 0 new).run st = some ⟨.tup [.p (.i .i64 o.1), .p (.i .i64 o.2)], ws⟩ := JE rfl (JlK p h) rfl
def J9G  (r : J8 × T_pagemenddraw_Codes) : Option Res := some (.data (Jb r.1), [.box (List.map AV.p (J0 r.2))])
def J3t (b0 : T_pagemenddraw_Codes) : Option (J8 × T_pagemenddraw_Codes) :=
 Option.bind (J06 b0 3) fun r1 =>
 if ((r1.1 : Int) == 0) then
  some ((⟨false, ([] : List UInt8)⟩ : J8), r1.2)
 else
  Option.bind (J3q r1.2) fun r5 =>
  Option.bind (J28 r5.1 none (some (Jfc ((List.length r5.1 : Nat) : Int) 12))) fun m8 =>
  some ((⟨true, m8⟩ : J8), r5.2)
theorem Jbx {b0 : T_pagemenddraw_Codes} {o : J8 × T_pagemenddraw_Codes} (h : J3t b0 = some o) :
  rk (J1 p) J3v 1 [] (X (J1 p) J2l ⟨[(0, .ptr 0 0)], [.box (List.map AV.p (J0 b0))]⟩) = J9G o := by
 unfold J3t at h
 obtain ⟨r1, h2, h⟩ := bi h
 have f3 : ∀ ws new s, J1o ws s [0] [List.map AV.p (J0 b0)] → (Jq (AF (J1 p)) Jm ([.ptr 0 0, .p (.i .i64 3)], ws) 0 new).run s = some ⟨.p (.i .i64 r1.1), ws ++ [(0, .box (List.map AV.p (J0 r1.2)))]⟩ := J0K (args' := [.ptr 0 0, .p (.i .i64 3)]) (bs := [0]) (css := [List.map AV.p (J0 b0)]) (css' := [List.map AV.p (J0 r1.2)]) rfl rfl rfl (by simp [JN, Jr]) (J0u p h2) rfl rfl (by simp [JN, Jr])
 try simp only [Nf] at f3
 try simp only [↓Da, Ua, J2l, J5, Jh, *, ↓reduceIte, reduceEqDiff, reduceAdd, reduceLT, reduceMul]
 rcases Jd h with ⟨h4, h⟩ | ⟨h4, h⟩
 ·have h4n : ((r1.1 : Int) != 0) = false := by rw [bne, h4]; rfl
  obtain rfl := sj h
  try simp only [↓Da, Ua, J2l, J5, Jh, J9E, *, ↓reduceIte, reduceEqDiff, reduceAdd, reduceLT, reduceMul]
  rfl
 ·have h4n : ((r1.1 : Int) != 0) = true := by rw [bne, h4]; rfl
  obtain ⟨r5, h6, h⟩ := bi h
  have f7 : ∀ ws new s, J1o ws s [0] [List.map AV.p (J0 r1.2)] → (Jq (AF (J1 p)) J3p ([.ptr 0 0], ws) 0 new).run s = some ⟨.p (.s r5.1), ws ++ [(0, .box (List.map AV.p (J0 r5.2)))]⟩ := J0K (args' := [.ptr 0 0]) (bs := [0]) (css := [List.map AV.p (J0 r1.2)]) (css' := [List.map AV.p (J0 r5.2)]) rfl rfl rfl (by simp [JN, Jr]) (Jeo p h6) rfl rfl (by simp [JN, Jr])
  try simp only [Nf] at f7
  obtain ⟨m8, h9, h⟩ := bi h
  have f10 : J4L (.p (.s r5.1)) none (some (.p (.i .i64 (Jfc ((List.length r5.1 : Nat) : Int) 12)))) = some (.p (.s m8)) := J9d (k := .i64) (lo := none) (hi := (some (Jfc ((List.length r5.1 : Nat) : Int) 12))) h9
  try simp only [Nf] at f10
  obtain rfl := sj h
  try simp only [↓Da, Ua, J2l, J5, Jh, J9E, *, ↓reduceIte, reduceEqDiff, reduceAdd, reduceLT, reduceMul]
  rfl
theorem Jep {b0 : T_pagemenddraw_Codes} {o : J8 × T_pagemenddraw_Codes} (h : J3t b0 = some o) : AF (J1 p) J3r [.ptr 0 0] [.box (List.map AV.p (J0 b0))] = J9G o :=
 (J14 (J1 p) (Jeq p) rfl).trans (Jbx p h)
def JcH  (r : (List UInt8)) : Option Res := some (.p (.s r), [])
def J1R (x0 : Int) : Option ((List UInt8)) :=
 Option.bind (mkS 1 x0 x0 0) fun m1 =>
 some (toStr m1)
theorem JeD {x0 : Int} {o : (List UInt8)} (h : J1R x0 = some o) :
  rk (J1 p) J5m 0 [] (X (J1 p) J6t ⟨[(0, .p (.i .i64 x0))], []⟩) = JcH o := by
 unfold J1R at h
 obtain ⟨m1, h2, h⟩ := bi h
 have f3 : (0 ≤ (x0 : Int) ∧ (x0 : Int) ≤ x0 ∧ ((1 : Nat) : Int) * x0 ≤ 281474976710656 ∧ (x0 : Int) ≤ 281474976710656) = True := eq_true (J86 h2).1
 have f4 : List.replicate (Int.toNat x0) ((r_i .u8) 0) = List.map (r_i .u8) m1 := by rw [(J86 h2).2, List.map_replicate]
 try simp only [Nf] at f4
 obtain rfl := sj h
 try simp only [↓Da, Ua, J6t, Jj4, *, ↓reduceIte, reduceEqDiff, reduceAdd, reduceLT, reduceMul]
 rfl
theorem Jje {x0 : Int} {o : (List UInt8)} (h : J1R x0 = some o) : AF (J1 p) J2T [.p (.i .i64 x0)] [] = JcH o :=
 (J14 (J1 p) (JiO p) rfl).trans (JeD p h)
theorem JcT {x0 : Int} {o : (List UInt8)} (h : J1R x0 = some o) : ∀ ws new st, (Jq (AF (J1 p)) J2T ([.p (.i .i64 x0)], ws) 0 new).run st = some ⟨.p (.s o), ws⟩ := JE rfl (Jje p h) rfl
def J6I  (r : Int) : Option Res := some (.p (.i .u32 r), [])
def J6r (x0 : List UInt8) (o : (Int × Int) ⊕ (Int)) : Option Res := match o with
 | .inl s => rk (J1 p) J0S 0 [.bl 0, .sq (.keep [3] J1d)] (X (J1 p) (.lp 0 [0, 3, 4] J0Z) ⟨[(0, .p (.s x0)), (3, .p (.i .u32 s.1)), (4, .p (.i .i64 s.2))], []⟩)
 | .inr o => J6I o
def JcV (x0 : List UInt8) (x4 : Int) (o : (Int × Int) ⊕ (((Int × Int) ⊕ (Int)))) : Option Res := match o with
 | .inl s => rk (J1 p) J0S 0 [.bl 2, .bl 1, .sq (.keep [0, 3, 4] J3y), .lo 0 [0, 3, 4] J0Z, .bl 0, .sq (.keep [3] J1d)] (X (J1 p) (.lp 0 [0, 3, 4, 5] J1O) ⟨[(0, .p (.s x0)), (3, .p (.i .u32 s.1)), (4, .p (.i .i64 x4)), (5, .p (.i .i64 s.2))], []⟩)
 | .inr o => (J6r p x0) o
def J6x (x0 : List UInt8) (x3 x4 x5 : Int) : Option (((Int × Int) ⊕ (((Int × Int) ⊕ (Int))))) :=
 some (.inl (x3, (IntKind.wrap .i64 (x5 + 1))))
theorem Jcr {x0 : List UInt8} {x3 x4 x5 : Int} {o : ((Int × Int) ⊕ (((Int × Int) ⊕ (Int))))} (h : J6x x0 x3 x4 x5 = some o) :
  rk (J1 p) J0S 0 [.lo 0 [0, 3, 4, 5] J1O, .bl 2, .bl 1, .sq (.keep [0, 3, 4] J3y), .lo 0 [0, 3, 4] J0Z, .bl 0, .sq (.keep [3] J1d)] (X (J1 p) J9o ⟨[(0, .p (.s x0)), (3, .p (.i .u32 x3)), (4, .p (.i .i64 x4)), (5, .p (.i .i64 x5))], []⟩) = (JcV p x0 x4) o := by
 unfold J6x at h
 obtain rfl := sj h
 try simp only [↓Da, Ua, J9o, ↓reduceIte, reduceEqDiff, reduceAdd, reduceLT, reduceMul]
 rfl
def J7O (x0 : List UInt8) (x3 x4 : Int) : Option (((Int × Int) ⊕ (Int))) :=
 some (.inl (x3, (IntKind.wrap .i64 (x4 + 1))))
theorem Jj9 {x0 : List UInt8} {x3 x4 : Int} {o : ((Int × Int) ⊕ (Int))} (h : J7O x0 x3 x4 = some o) :
  rk (J1 p) J0S 0 [.lo 0 [0, 3, 4] J0Z, .bl 0, .sq (.keep [3] J1d)] (X (J1 p) J3y ⟨[(0, .p (.s x0)), (3, .p (.i .u32 x3)), (4, .p (.i .i64 x4))], []⟩) = (J6r p x0) o := by
 unfold J7O at h
 obtain rfl := sj h
 try simp only [↓Da, Ua, J3y, ↓reduceIte, reduceEqDiff, reduceAdd, reduceLT, reduceMul]
 rfl
def J4h (x0 : List UInt8) (x4 x3 x5 : Int) : Option (((Int × Int) ⊕ (((Int × Int) ⊕ (Int))))) :=
 if (decide (x5 < 8)) then
  if (((J3P .u32 x3 1) : Int) == 1) then
   Option.bind (J6P .u32 x3 1) fun q3 =>
   J6x x0 (J4U .u32 q3 2197175160) x4 x5
  else
   Option.bind (J6P .u32 x3 1) fun q5 =>
   J6x x0 q5 x4 x5
 else
  Option.map (fun o => .inr o) (J7O x0 x3 x4)
theorem JcA {x0 : List UInt8} {x4 x3 x5 : Int} {o : ((Int × Int) ⊕ (((Int × Int) ⊕ (Int))))} (h : J4h x0 x4 x3 x5 = some o) :
  rk (J1 p) J0S 0 [.lo 0 [0, 3, 4, 5] J1O, .bl 2, .bl 1, .sq (.keep [0, 3, 4] J3y), .lo 0 [0, 3, 4] J0Z, .bl 0, .sq (.keep [3] J1d)] (X (J1 p) J1O ⟨[(0, .p (.s x0)), (3, .p (.i .u32 x3)), (4, .p (.i .i64 x4)), (5, .p (.i .i64 x5))], []⟩) = (JcV p x0 x4) o := by
 unfold J4h at h
 rcases Jd h with ⟨h1, h⟩ | ⟨h1, h⟩
 ·try simp only [↓Da, Ua, J1O, *, ↓reduceIte, reduceEqDiff, reduceAdd, reduceLT, reduceMul]
  rcases Jd h with ⟨h2, h⟩ | ⟨h2, h⟩
  ·have h2n : (((J3P .u32 x3 1) : Int) != 1) = false := by rw [bne, h2]; rfl
   obtain ⟨q3, h4, h⟩ := bi h
   try simp only [↓Da, Ua, J1O, *, ↓reduceIte, reduceEqDiff, reduceAdd, reduceLT, reduceMul]
   have e0 := Jcr p h
   exact e0
  ·have h2n : (((J3P .u32 x3 1) : Int) != 1) = true := by rw [bne, h2]; rfl
   obtain ⟨q5, h6, h⟩ := bi h
   try simp only [↓Da, Ua, J1O, *, ↓reduceIte, reduceEqDiff, reduceAdd, reduceLT, reduceMul]
   have e0 := Jcr p h
   exact e0
 ·obtain ⟨o', h', rfl⟩ := mi h
  try simp only [↓Da, Ua, J1O, *, ↓reduceIte, reduceEqDiff, reduceAdd, reduceLT, reduceMul]
  have e0 := Jj9 p h'
  exact e0
def Jcs (x0 : List UInt8) (x4 : Int) (s : Int × Int) : Option (((Int × Int) ⊕ (Int))) :=
 Ju (fun s => J4h x0 x4 s.1 s.2) s
theorem JgZ {x0 : List UInt8} {x4 : Int} {s : Int × Int} {o : ((Int × Int) ⊕ (Int))} (h : Jcs x0 x4 s = some o) :
  rk (J1 p) J0S 0 [.bl 2, .bl 1, .sq (.keep [0, 3, 4] J3y), .lo 0 [0, 3, 4] J0Z, .bl 0, .sq (.keep [3] J1d)] (X (J1 p) (.lp 0 [0, 3, 4, 5] J1O) ⟨[(0, .p (.s x0)), (3, .p (.i .u32 s.1)), (4, .p (.i .i64 x4)), (5, .p (.i .i64 s.2))], []⟩) = (J6r p x0) o := by
 have h0 : Ju (fun s => J4h x0 x4 s.1 s.2) s = some o := h
 exact J0T (P := fun (s : Int × Int) (o : ((Int × Int) ⊕ (Int))) => rk (J1 p) J0S 0 [.bl 2, .bl 1, .sq (.keep [0, 3, 4] J3y), .lo 0 [0, 3, 4] J0Z, .bl 0, .sq (.keep [3] J1d)] (X (J1 p) (.lp 0 [0, 3, 4, 5] J1O) ⟨[(0, .p (.s x0)), (3, .p (.i .u32 s.1)), (4, .p (.i .i64 x4)), (5, .p (.i .i64 s.2))], []⟩) = (J6r p x0) o) (fun s r hs => by rw [J19]; exact JcA p hs) (fun s s1 r hs ih => by rw [J19]; exact (JcA p hs).trans ih) h0
def J7W (x3 : Int) : Option (Int) :=
 some (JhI .u32 x3)
theorem Jjb {x3 o : Int} (h : J7W x3 = some o) :
  rk (J1 p) J0S 0 [] (X (J1 p) J1d ⟨[(3, .p (.i .u32 x3))], []⟩) = J6I o := by
 unfold J7W at h
 obtain rfl := sj h
 try simp only [↓Da, Ua, J1d, JlE, ↓reduceIte, reduceEqDiff, reduceAdd, reduceLT, reduceMul]
 rfl
def J4n (x0 : List UInt8) (x3 x4 : Int) : Option (((Int × Int) ⊕ (Int))) :=
 if (decide (x4 < ((List.length x0 : Nat) : Int))) then
  Option.bind (Jb0 x0 x4) fun c2 =>
  Jcs x0 x4 ((J4U .u32 x3 (IntKind.wrap .u32 c2)), 0)
 else
  Option.map (fun o => .inr o) (J7W x3)
theorem JcR {x0 : List UInt8} {x3 x4 : Int} {o : ((Int × Int) ⊕ (Int))} (h : J4n x0 x3 x4 = some o) :
  rk (J1 p) J0S 0 [.lo 0 [0, 3, 4] J0Z, .bl 0, .sq (.keep [3] J1d)] (X (J1 p) J0Z ⟨[(0, .p (.s x0)), (3, .p (.i .u32 x3)), (4, .p (.i .i64 x4))], []⟩) = (J6r p x0) o := by
 unfold J4n at h
 rcases Jd h with ⟨h1, h⟩ | ⟨h1, h⟩
 ·obtain ⟨c2, h3, h⟩ := bi h
  try simp only [↓Da, Ua, J0Z, *, ↓reduceIte, reduceEqDiff, reduceAdd, reduceLT, reduceMul]
  have e0 := JgZ p h
  exact e0
 ·obtain ⟨o', h', rfl⟩ := mi h
  try simp only [↓Da, Ua, J0Z, *, ↓reduceIte, reduceEqDiff, reduceAdd, reduceLT, reduceMul]
  have e0 := Jjb p h'
  exact e0
def Jcv (x0 : List UInt8) (s : Int × Int) : Option (Int) :=
 Ju (fun s => J4n x0 s.1 s.2) s
theorem Jg0 {x0 : List UInt8} {s : Int × Int} {o : Int} (h : Jcv x0 s = some o) :
  rk (J1 p) J0S 0 [.bl 0, .sq (.keep [3] J1d)] (X (J1 p) (.lp 0 [0, 3, 4] J0Z) ⟨[(0, .p (.s x0)), (3, .p (.i .u32 s.1)), (4, .p (.i .i64 s.2))], []⟩) = J6I o := by
 have h0 : Ju (fun s => J4n x0 s.1 s.2) s = some o := h
 exact J0T (P := fun (s : Int × Int) (o : Int) => rk (J1 p) J0S 0 [.bl 0, .sq (.keep [3] J1d)] (X (J1 p) (.lp 0 [0, 3, 4] J0Z) ⟨[(0, .p (.s x0)), (3, .p (.i .u32 s.1)), (4, .p (.i .i64 s.2))], []⟩) = J6I o) (fun s r hs => by rw [J19]; exact JcR p hs) (fun s s1 r hs ih => by rw [J19]; exact (JcR p hs).trans ih) h0
def J5G (x0 : List UInt8) : Option (Int) :=
 Jcv x0 (4294967295, 0)
theorem JgQ {x0 : List UInt8} {o : Int} (h : J5G x0 = some o) :
  rk (J1 p) J0S 0 [] (X (J1 p) J7H ⟨[(0, .p (.s x0))], []⟩) = J6I o := by
 unfold J5G at h
 try simp only [↓Da, Ua, J7H, ↓reduceIte, reduceEqDiff, reduceAdd, reduceLT, reduceMul]
 have e0 := Jg0 p h
 exact e0
theorem JlM {x0 : List UInt8} {o : Int} (h : J5G x0 = some o) : AF (J1 p) J5F [.p (.s x0)] [] = J6I o :=
 (J14 (J1 p) (JlG p) rfl).trans (JgQ p h)
theorem JlH {x0 : List UInt8} {o : Int} (h : J5G x0 = some o) : ∀ ws new st, (Jq (AF (J1 p)) J5F ([.p (.s x0)], ws) 0 new).run st = some ⟨.p (.i .u32 o), ws⟩ := JE rfl (JlM p h) rfl
def J62  (r : Bool) : Option Res := some (.p (.b r), [])
def Jh7 (x6 : Vector J8 16) (b0 : T_api_Page) (o : (Int) ⊕ (Bool)) : Option Res := match o with
 | .inl s => rk (J1 p) J29 0 [.bl 0, .td 1 [2], .sq (.keep [] J3Q)] (X (J1 p) (.lp 1 [1, 6, 7] J0n) ⟨[(1, .ptr 0 0), (6, .data ((JW Jb) x6)), (7, .p (.i .i64 s))], [.box (List.map AV.p (J3 b0))]⟩)
 | .inr o => J62 o
def J5Z  : Option (Bool) :=
 some true
theorem Jhh {B0 : List PV} {o : Bool} (h : J5Z = some o) :
  rk (J1 p) J29 0 [] (X (J1 p) J3Q ⟨[], [.box (List.map AV.p B0)]⟩) = J62 o := by
 unfold J5Z at h
 obtain rfl := sj h
 try simp only [↓Da, Ua, J3Q, J8G, ↓reduceIte, reduceEqDiff, reduceAdd, reduceLT, reduceMul]
 rfl
def J07 (x6 : Vector J8 16) (b0 : T_api_Page) (x7 : Int) : Option (((Int) ⊕ (Bool))) :=
 if (decide (x7 < 16)) then
  Option.bind (J6Q x6 x7) fun y2 =>
  if (decide (((List.length y2.Data : Nat) : Int) > 12)) then
   some (.inr false)
  else
   if y2.Set then
    if ((b0.LSN : Int) == 0) then
     some (.inr false)
    else
     some (.inl (IntKind.wrap .i64 (x7 + 1)))
   else
    if (y2.Data == []) then
     some (.inl (IntKind.wrap .i64 (x7 + 1)))
    else
     some (.inr false)
 else
  Option.map (fun o => .inr o) (J5Z)
theorem JbH {x6 : Vector J8 16} {b0 : T_api_Page} {x7 : Int} {o : ((Int) ⊕ (Bool))} (h : J07 x6 b0 x7 = some o) :
  rk (J1 p) J29 0 [.lo 1 [1, 6, 7] J0n, .bl 0, .td 1 [2], .sq (.keep [] J3Q)] (X (J1 p) J0n ⟨[(1, .ptr 0 0), (6, .data ((JW Jb) x6)), (7, .p (.i .i64 x7))], [.box (List.map AV.p (J3 b0))]⟩) = (Jh7 p x6 b0) o := by
 unfold J07 at h
 rcases Jd h with ⟨h1, h⟩ | ⟨h1, h⟩
 ·obtain ⟨y2, h3, h⟩ := bi h
  have f4 : (0 ≤ (x7 : Int) ∧ (x7 : Int) < ((16 : Nat) : Int)) = True := eq_true (J3J h3).1
  have f5 : sub (JW Jb x6) (Int.toNat x7 * 2) 2 = some (Jb y2) := J7C JT (J3J h3).2
  try simp only [Nf] at f5
  try simp only [↓Da, Ua, J0n, J5, J2, J6, *, ↓reduceIte, reduceEqDiff, reduceAdd, reduceLT, reduceMul]
  rcases Jd h with ⟨h6, h⟩ | ⟨h6, h⟩
  ·obtain rfl := sj h
   try simp only [↓Da, Ua, J0n, J5, J2, J6, J8G, *, ↓reduceIte, reduceEqDiff, reduceAdd, reduceLT, reduceMul]
   rfl
  ·try simp only [↓Da, Ua, J0n, J5, J2, J6, *, ↓reduceIte, reduceEqDiff, reduceAdd, reduceLT, reduceMul]
   rcases Jd h with ⟨h7, h⟩ | ⟨h7, h⟩
   ·try simp only [↓Da, Ua, J0n, J5, J2, J6, *, ↓reduceIte, reduceEqDiff, reduceAdd, reduceLT, reduceMul]
    rcases Jd h with ⟨h8, h⟩ | ⟨h8, h⟩
    ·have h8n : ((b0.LSN : Int) != 0) = false := by rw [bne, h8]; rfl
     obtain rfl := sj h
     try simp only [↓Da, Ua, J0n, J5, J2, J6, J8G, *, ↓reduceIte, reduceEqDiff, reduceAdd, reduceLT, reduceMul]
     rfl
    ·have h8n : ((b0.LSN : Int) != 0) = true := by rw [bne, h8]; rfl
     obtain rfl := sj h
     try simp only [↓Da, Ua, J0n, J5, J2, J6, *, ↓reduceIte, reduceEqDiff, reduceAdd, reduceLT, reduceMul]
     rfl
   ·try simp only [↓Da, Ua, J0n, J5, J2, J6, *, ↓reduceIte, reduceEqDiff, reduceAdd, reduceLT, reduceMul]
    rcases Jd h with ⟨h9, h⟩ | ⟨h9, h⟩
    ·obtain rfl := sj h
     try simp only [↓Da, Ua, J0n, J5, J2, J6, *, ↓reduceIte, reduceEqDiff, reduceAdd, reduceLT, reduceMul]
     rfl
    ·obtain rfl := sj h
     try simp only [↓Da, Ua, J0n, J5, J2, J6, J8G, *, ↓reduceIte, reduceEqDiff, reduceAdd, reduceLT, reduceMul]
     rfl
 ·obtain ⟨o', h', rfl⟩ := mi h
  try simp only [↓Da, Ua, J0n, J5, J2, J6, *, ↓reduceIte, reduceEqDiff, reduceAdd, reduceLT, reduceMul]
  have e0 := Jhh p (B0 := (J3 b0)) h'
  first | exact e0 | (simp only [*] at e0; exact e0)
def Jbp (x6 : Vector J8 16) (b0 : T_api_Page) (s : Int) : Option (Bool) :=
 Ju (fun s => J07 x6 b0 s) s
theorem Jfo {x6 : Vector J8 16} {b0 : T_api_Page} {s : Int} {o : Bool} (h : Jbp x6 b0 s = some o) :
  rk (J1 p) J29 0 [.bl 0, .td 1 [2], .sq (.keep [] J3Q)] (X (J1 p) (.lp 1 [1, 6, 7] J0n) ⟨[(1, .ptr 0 0), (6, .data ((JW Jb) x6)), (7, .p (.i .i64 s))], [.box (List.map AV.p (J3 b0))]⟩) = J62 o := by
 have h0 : Ju (fun s => J07 x6 b0 s) s = some o := h
 exact J0T (P := fun (s : Int) (o : Bool) => rk (J1 p) J29 0 [.bl 0, .td 1 [2], .sq (.keep [] J3Q)] (X (J1 p) (.lp 1 [1, 6, 7] J0n) ⟨[(1, .ptr 0 0), (6, .data ((JW Jb) x6)), (7, .p (.i .i64 s))], [.box (List.map AV.p (J3 b0))]⟩) = J62 o) (fun s r hs => by rw [J19]; exact JbH p hs) (fun s s1 r hs ih => by rw [J19]; exact (JbH p hs).trans ih) h0
def J3W (x0 : T_api_Page) : Option (Bool) :=
 Jbp x0.Cells x0 0
theorem Jfk {x0 : T_api_Page} {o : Bool} (h : J3W x0 = some o) :
  rk (J1 p) J29 0 [] (X (J1 p) J74 ⟨[(0, .data (J3 x0))], []⟩) = J62 o := by
 unfold J3W at h
 try simp only [↓Da, Ua, J74, J5, J2, J6, ↓reduceIte, reduceEqDiff, reduceAdd, reduceLT, reduceMul]
 have e0 := Jfo p h
 first | exact e0 | (simp only [*] at e0; exact e0)
theorem JkY {x0 : T_api_Page} {o : Bool} (h : J3W x0 = some o) : AF (J1 p) J5S [.data (J3 x0)] [] = J62 o :=
 (J14 (J1 p) (JkH p) rfl).trans (Jfk p h)
theorem Jkg {x0 : T_api_Page} {o : Bool} (h : J3W x0 = some o) : ∀ ws new st, (Jq (AF (J1 p)) J5S ([.data (J3 x0)], ws) 0 new).run st = some ⟨.p (.b o), ws⟩ := JE rfl (JkY p h) rfl
def Jac (r : List UInt8) : Option Res := some (.p (.s r), [])
def J2V (x0 : List UInt8) (x1 : Int) : Option (List UInt8) := Jho x0 x1
theorem Jfd {x0 : List UInt8} {x1 : Int} {o : List UInt8} (h : J2V x0 x1 = some o) : AF (J1 p) J1L [.p (.s x0), .p (.i .i64 x1)] [] = Jac o := by
 rw [JdT (JfA p)]
 have h' : Jho x0 x1 = some o := h
 simp only [JkM, h', Option.map_some, Jac]
theorem J85 {x0 : List UInt8} {x1 : Int} {o : List UInt8} (h : J2V x0 x1 = some o) : ∀ ws new st, (Jq (AF (J1 p)) J1L ([.p (.s x0), .p (.i .i64 x1)], ws) 0 new).run st = some ⟨.p (.s o), ws⟩ := JE rfl (Jfd p h) rfl
def J13 (x0 : List T_api_Copy) : Option (List T_api_Copy) := if (2 * x0.length + 512) * 32 ≤ 281474976710656 then some x0 else none
theorem J7Z {x0 o : List T_api_Copy} (h : J13 x0 = some o) : AF (J1 p) J0s [.p (.sl 3 (List.map J7 x0))] [] = some (.slr 0 0 o.length, [.arr true 3 (List.map J7 o)]) := by
 unfold J13 at h
 split at h
 ·rename_i h2
  injection h with h; subst h
  rw [JqD _ (J81 p)]
  cases x0 with
  | nil => simp [J12, J9M, JbS, J8q.af]
  | cons a r =>
   simp at h2
   simp [J12, J9M, JbS, J8q.af, h2]
 ·cases h
def J0X (x0 : List T_api_Copy) (x1 : Int) (x2 : List T_api_Copy) : Option (List T_api_Copy) := match x2 with
 | [v] => Jdf 32 x0 x1 v
 | _ => none
theorem J7I {x0 x2 : List T_api_Copy} {x1 : Int} {o : List T_api_Copy} (h : J0X x0 x1 x2 = some o) : AF (J1 p) J0U [.slr 0 0 (List.length x0), .p (.i .i64 x1), .slr 1 0 (List.length x2)] [.arr true 3 (List.map J7 x0), .arr true 3 (List.map J7 x2)] = some (.slr 0 0 (List.length o), [.arr true 3 (List.map J7 o), .arr true 3 (List.map J7 x2)]) := by
 rw [JdT (J7E p)]
 unfold J0X at h
 split at h
 ·exact Jri J7 h
 ·cases h
def JaA  (r : Bool) : Option Res := some (.p (.b r), [])
def J36 (x0 : T_api_Page) : Option (Bool) :=
 if (decide (x0.ID ≥ 0)) then
  if (decide (x0.ID < 64)) then
   if (decide (x0.LSN ≥ 0)) then
    some (decide (x0.LSN ≤ 1099511627776))
   else
    some false
  else
   some false
 else
  some false
theorem JcZ {x0 : T_api_Page} {o : Bool} (h : J36 x0 = some o) :
  rk (J1 p) J48 0 [] (X (J1 p) J1E ⟨[(0, .data (J3 x0))], []⟩) = JaA o := by
 unfold J36 at h
 rcases Jd h with ⟨h1, h⟩ | ⟨h1, h⟩
 ·try simp only [↓Da, Ua, J1E, J5, J2, J6, *, ↓reduceIte, reduceEqDiff, reduceAdd, reduceLT, reduceMul]
  rcases Jd h with ⟨h2, h⟩ | ⟨h2, h⟩
  ·try simp only [↓Da, Ua, J1E, J5, J2, J6, *, ↓reduceIte, reduceEqDiff, reduceAdd, reduceLT, reduceMul]
   rcases Jd h with ⟨h3, h⟩ | ⟨h3, h⟩
   ·obtain rfl := sj h
    try simp only [↓Da, Ua, J1E, J5, J2, J6, J6V, *, ↓reduceIte, reduceEqDiff, reduceAdd, reduceLT, reduceMul]
    rfl
   ·obtain rfl := sj h
    try simp only [↓Da, Ua, J1E, J5, J2, J6, J6V, *, ↓reduceIte, reduceEqDiff, reduceAdd, reduceLT, reduceMul]
    rfl
  ·obtain rfl := sj h
   try simp only [↓Da, Ua, J1E, J5, J2, J6, J6V, *, ↓reduceIte, reduceEqDiff, reduceAdd, reduceLT, reduceMul]
   rfl
 ·obtain rfl := sj h
  try simp only [↓Da, Ua, J1E, J5, J2, J6, J6V, *, ↓reduceIte, reduceEqDiff, reduceAdd, reduceLT, reduceMul]
  rfl
theorem Jgj {x0 : T_api_Page} {o : Bool} (h : J36 x0 = some o) : AF (J1 p) J44 [.data (J3 x0)] [] = JaA o :=
 (J14 (J1 p) (Jh1 p) rfl).trans (JcZ p h)
theorem Jgw {x0 : T_api_Page} {o : Bool} (h : J36 x0 = some o) : ∀ ws new st, (Jq (AF (J1 p)) J44 ([.data (J3 x0)], ws) 0 new).run st = some ⟨.p (.b o), ws⟩ := JE rfl (Jgj p h) rfl
def JcN (x8 : Int) : Option (Int × Int) :=
 some ((IntKind.wrap .i64 x8), 0)
def J9m (x0 : List UInt8) (x1 x2 : Int) (x8 x9 : Int) : Option (((Int × Int) ⊕ (Int × Int))) :=
 if (decide (x9 < x2)) then
  Option.bind (Jb0 x0 (IntKind.wrap .i64 (x1 + x9))) fun c2 =>
  Option.bind (Jbb .u64 (IntKind.wrap .u64 c2) (IntKind.wrap .u64 (IntKind.wrap .i64 (8 * x9)))) fun q4 =>
  some (.inl ((orI .u64 x8 q4), (IntKind.wrap .i64 (x9 + 1))))
 else
  Option.map (fun o => .inr o) (JcN x8)
def JcS (x0 : List UInt8) (x1 x2 : Int) (s : Int × Int) : Option (Int × Int) :=
 Ju (fun s => J9m x0 x1 x2 s.1 s.2) s
def J4A (x0 : List UInt8) (x1 x2 : Int) : Option (Int × Int) :=
 if (decide (x2 < 1)) then
  some (0, 1)
 else
  if (decide (x2 > 8)) then
   some (0, 1)
  else
   if (decide (x1 < 0)) then
    some (0, 1)
   else
    if (decide (x1 > ((List.length x0 : Nat) : Int))) then
     some (0, 5)
    else
     if (decide ((IntKind.wrap .i64 (((List.length x0 : Nat) : Int) - x1)) < x2)) then
      some (0, 5)
     else
      JcS x0 x1 x2 (0, 0)
end
end Go.Am
end
