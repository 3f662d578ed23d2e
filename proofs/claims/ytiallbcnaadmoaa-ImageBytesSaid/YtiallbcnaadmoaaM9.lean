/-
  Parts of a proof.
-/
import Derived.Test.YtiallbcnaadmoaaM6
import Derived.Test.YtiallbcnaadmoaaM7
import Derived.Test.YtiallbcnaadmoaaM8
set_option linter.unusedSimpArgs false
set_option linter.unusedVariables false
section
namespace Go.Am
set_option maxRecDepth 8000
set_option maxHeartbeats 4000000
set_option linter.unusedSimpArgs false
set_option linter.unusedVariables false
structure T_api_Copy where
 Page : Int
 LSN : Int
 Data : List UInt8
 deriving DecidableEq
instance : Inhabited T_api_Copy := ⟨⟨0, 0, []⟩⟩
def J5 (x : T_api_Copy) : List PV := (cat [.i .i64 x.Page] (cat [.i .i64 x.LSN] [.s x.Data]))
theorem JaC (x : T_api_Copy) : (J5 x).length = 3 := by
 simp only [cat, J5, List.length_append, List.length_cons, List.length_nil]
theorem Jht (x : T_api_Copy) : sub (J5 x) 0 1 = some [.i .i64 x.Page] := by unfold J5; exact J9y rfl
theorem Jhp (x : T_api_Copy) (y : Int) : spl (J5 x) 0 [.i .i64 y] = some (J5 ⟨y, x.LSN, x.Data⟩) := by unfold J5; exact J9p rfl
theorem JiY (x : T_api_Copy) : sub (J5 x) 1 1 = some [.i .i64 x.LSN] := by
 have e0 : J5 x = cat [.i .i64 x.Page] (cat [.i .i64 x.LSN] [.s x.Data]) := by unfold J5; simp only [cat, List.append_assoc]
 rw [e0]; exact JbB (by simp only [cat, List.length_append, List.length_cons, List.length_nil]) rfl
theorem Jie (x : T_api_Copy) (y : Int) : spl (J5 x) 1 [.i .i64 y] = some (J5 ⟨x.Page, y, x.Data⟩) := by
 have e0 : J5 x = cat [.i .i64 x.Page] (cat [.i .i64 x.LSN] [.s x.Data]) := by unfold J5; simp only [cat, List.append_assoc]
 have e1 : J5 ⟨x.Page, y, x.Data⟩ = cat [.i .i64 x.Page] (cat [.i .i64 y] [.s x.Data]) := by unfold J5; simp only [cat, List.append_assoc]
 rw [e0, e1]; exact JbA (by simp only [cat, List.length_append, List.length_cons, List.length_nil]) rfl
theorem Jhj (x : T_api_Copy) : sub (J5 x) 2 1 = some [.s x.Data] := by
 have e0 : J5 x = cat (cat [.i .i64 x.Page] [.i .i64 x.LSN]) [.s x.Data] := by unfold J5; simp only [cat, List.append_assoc]
 rw [e0]; exact Jau (by simp only [cat, List.length_append, List.length_cons, List.length_nil]) rfl
theorem JhI (x : T_api_Copy) (y : List UInt8) : spl (J5 x) 2 [.s y] = some (J5 ⟨x.Page, x.LSN, y⟩) := by
 have e0 : J5 x = cat (cat [.i .i64 x.Page] [.i .i64 x.LSN]) [.s x.Data] := by unfold J5; simp only [cat, List.append_assoc]
 have e1 : J5 ⟨x.Page, x.LSN, y⟩ = cat (cat [.i .i64 x.Page] [.i .i64 x.LSN]) [.s y] := by unfold J5; simp only [cat, List.append_assoc]
 rw [e0, e1]; exact JaD (by simp only [cat, List.length_append, List.length_cons, List.length_nil]) rfl
theorem Joq : (default : T_api_Copy) = (⟨0, 0, []⟩ : T_api_Copy) := rfl
theorem Jn6 (x : T_api_Copy) : sub (J5 x) 0 3 = some (J5 x) := Jbh (JaC x)
theorem Jna (x y : T_api_Copy) : spl (J5 x) 0 (J5 y) = some (J5 y) := Jbp ((JaC x).trans (JaC y).symm)
theorem Ji : (∀ x : T_api_Copy, (J5 x).length = 3) ∧
 (∀ x : T_api_Copy, sub (J5 x) 0 1 = some [.i .i64 x.Page]) ∧
 (∀ (x : T_api_Copy) (y : Int), spl (J5 x) 0 [.i .i64 y] = some (J5 ⟨y, x.LSN, x.Data⟩)) ∧
 (∀ x : T_api_Copy, sub (J5 x) 1 1 = some [.i .i64 x.LSN]) ∧
 (∀ (x : T_api_Copy) (y : Int), spl (J5 x) 1 [.i .i64 y] = some (J5 ⟨x.Page, y, x.Data⟩)) ∧
 (∀ x : T_api_Copy, sub (J5 x) 2 1 = some [.s x.Data]) ∧
 (∀ (x : T_api_Copy) (y : List UInt8), spl (J5 x) 2 [.s y] = some (J5 ⟨x.Page, x.LSN, y⟩)) ∧
 ((default : T_api_Copy) = (⟨0, 0, []⟩ : T_api_Copy)) ∧
 (∀ x : T_api_Copy, sub (J5 x) 0 3 = some (J5 x)) ∧
 (∀ x y : T_api_Copy, spl (J5 x) 0 (J5 y) = some (J5 y)) :=
 ⟨@JaC, @Jht, @Jhp, @JiY, @Jie, @Jhj, @JhI, Joq, @Jn6, @Jna⟩
theorem Jc : (∀ x : T_api_Copy, J5 x = (cat [.i .i64 x.Page] (cat [.i .i64 x.LSN] [.s x.Data]))) ∧ (default : T_api_Copy) = (⟨0, 0, []⟩ : T_api_Copy) := ⟨fun _ => rfl, rfl⟩
structure T_api_Image where
 ID : Int
 Pages : Int
 Copies : List T_api_Copy
 deriving DecidableEq
instance : Inhabited T_api_Image := ⟨⟨0, 0, []⟩⟩
def J3 (x : T_api_Image) : List PV := (cat [.i .i64 x.ID] (cat [.i .i64 x.Pages] [.sl 3 (List.map J5 x.Copies)]))
theorem J9R (x : T_api_Image) : (J3 x).length = 3 := by
 simp only [cat, J3, List.length_append, List.length_cons, List.length_nil]
theorem Jj8 (x : T_api_Image) : sub (J3 x) 0 1 = some [.i .i64 x.ID] := by unfold J3; exact J9y rfl
theorem Jih (x : T_api_Image) (y : Int) : spl (J3 x) 0 [.i .i64 y] = some (J3 ⟨y, x.Pages, x.Copies⟩) := by unfold J3; exact J9p rfl
theorem JfX (x : T_api_Image) : sub (J3 x) 1 1 = some [.i .i64 x.Pages] := by
 have e0 : J3 x = cat [.i .i64 x.ID] (cat [.i .i64 x.Pages] [.sl 3 (List.map J5 x.Copies)]) := by unfold J3; simp only [cat, List.append_assoc]
 rw [e0]; exact JbB (by simp only [cat, List.length_append, List.length_cons, List.length_nil]) rfl
theorem JfW (x : T_api_Image) (y : Int) : spl (J3 x) 1 [.i .i64 y] = some (J3 ⟨x.ID, y, x.Copies⟩) := by
 have e0 : J3 x = cat [.i .i64 x.ID] (cat [.i .i64 x.Pages] [.sl 3 (List.map J5 x.Copies)]) := by unfold J3; simp only [cat, List.append_assoc]
 have e1 : J3 ⟨x.ID, y, x.Copies⟩ = cat [.i .i64 x.ID] (cat [.i .i64 y] [.sl 3 (List.map J5 x.Copies)]) := by unfold J3; simp only [cat, List.append_assoc]
 rw [e0, e1]; exact JbA (by simp only [cat, List.length_append, List.length_cons, List.length_nil]) rfl
theorem JeF (x : T_api_Image) : sub (J3 x) 2 1 = some [.sl 3 (List.map J5 x.Copies)] := by
 have e0 : J3 x = cat (cat [.i .i64 x.ID] [.i .i64 x.Pages]) [.sl 3 (List.map J5 x.Copies)] := by unfold J3; simp only [cat, List.append_assoc]
 rw [e0]; exact Jau (by simp only [cat, List.length_append, List.length_cons, List.length_nil]) rfl
theorem Jf6 (x : T_api_Image) (y : List T_api_Copy) : spl (J3 x) 2 [.sl 3 (List.map J5 y)] = some (J3 ⟨x.ID, x.Pages, y⟩) := by
 have e0 : J3 x = cat (cat [.i .i64 x.ID] [.i .i64 x.Pages]) [.sl 3 (List.map J5 x.Copies)] := by unfold J3; simp only [cat, List.append_assoc]
 have e1 : J3 ⟨x.ID, x.Pages, y⟩ = cat (cat [.i .i64 x.ID] [.i .i64 x.Pages]) [.sl 3 (List.map J5 y)] := by unfold J3; simp only [cat, List.append_assoc]
 rw [e0, e1]; exact JaD (by simp only [cat, List.length_append, List.length_cons, List.length_nil]) rfl
theorem Jmw : (default : T_api_Image) = (⟨0, 0, []⟩ : T_api_Image) := rfl
theorem Jld (x : T_api_Image) : sub (J3 x) 0 3 = some (J3 x) := Jbh (J9R x)
theorem Jl8 (x y : T_api_Image) : spl (J3 x) 0 (J3 y) = some (J3 y) := Jbp ((J9R x).trans (J9R y).symm)
theorem Je : (∀ x : T_api_Image, (J3 x).length = 3) ∧
 (∀ x : T_api_Image, sub (J3 x) 0 1 = some [.i .i64 x.ID]) ∧
 (∀ (x : T_api_Image) (y : Int), spl (J3 x) 0 [.i .i64 y] = some (J3 ⟨y, x.Pages, x.Copies⟩)) ∧
 (∀ x : T_api_Image, sub (J3 x) 1 1 = some [.i .i64 x.Pages]) ∧
 (∀ (x : T_api_Image) (y : Int), spl (J3 x) 1 [.i .i64 y] = some (J3 ⟨x.ID, y, x.Copies⟩)) ∧
 (∀ x : T_api_Image, sub (J3 x) 2 1 = some [.sl 3 (List.map J5 x.Copies)]) ∧
 (∀ (x : T_api_Image) (y : List T_api_Copy), spl (J3 x) 2 [.sl 3 (List.map J5 y)] = some (J3 ⟨x.ID, x.Pages, y⟩)) ∧
 ((default : T_api_Image) = (⟨0, 0, []⟩ : T_api_Image)) ∧
 (∀ x : T_api_Image, sub (J3 x) 0 3 = some (J3 x)) ∧
 (∀ x y : T_api_Image, spl (J3 x) 0 (J3 y) = some (J3 y)) :=
 ⟨@J9R, @Jj8, @Jih, @JfX, @JfW, @JeF, @Jf6, Jmw, @Jld, @Jl8⟩
theorem Ja : (∀ x : T_api_Image, J3 x = (cat [.i .i64 x.ID] (cat [.i .i64 x.Pages] [.sl 3 (List.map J5 x.Copies)]))) ∧ (default : T_api_Image) = (⟨0, 0, []⟩ : T_api_Image) := ⟨fun _ => rfl, rfl⟩
structure Jf where
 Set : Bool
 Data : List UInt8
 deriving DecidableEq
instance : Inhabited Jf := ⟨⟨false, []⟩⟩
def Jk (x : Jf) : List PV := (cat [.b x.Set] [.s x.Data])
theorem JQ (x : Jf) : (Jk x).length = 2 := by
 simp only [cat, Jk, List.length_append, List.length_cons, List.length_nil]
theorem Ja8 (x : Jf) : sub (Jk x) 0 1 = some [.b x.Set] := by unfold Jk; exact J9y rfl
theorem Jje (x : Jf) (y : Bool) : spl (Jk x) 0 [.b y] = some (Jk ⟨y, x.Data⟩) := by unfold Jk; exact J9p rfl
theorem J7x (x : Jf) : sub (Jk x) 1 1 = some [.s x.Data] := by
 have e0 : Jk x = cat [.b x.Set] [.s x.Data] := by unfold Jk; simp only [cat, List.append_assoc]
 rw [e0]; exact Jau (by simp only [cat, List.length_append, List.length_cons, List.length_nil]) rfl
theorem JhC (x : Jf) (y : List UInt8) : spl (Jk x) 1 [.s y] = some (Jk ⟨x.Set, y⟩) := by
 have e0 : Jk x = cat [.b x.Set] [.s x.Data] := by unfold Jk; simp only [cat, List.append_assoc]
 have e1 : Jk ⟨x.Set, y⟩ = cat [.b x.Set] [.s y] := by unfold Jk; simp only [cat, List.append_assoc]
 rw [e0, e1]; exact JaD (by simp only [cat, List.length_append, List.length_cons, List.length_nil]) rfl
theorem JoR : (default : Jf) = (⟨false, []⟩ : Jf) := rfl
theorem JmV (x : Jf) : sub (Jk x) 0 2 = some (Jk x) := Jbh (JQ x)
theorem Jmp (x y : Jf) : spl (Jk x) 0 (Jk y) = some (Jk y) := Jbp ((JQ x).trans (JQ y).symm)
theorem J7 : (∀ x : Jf, (Jk x).length = 2) ∧
 (∀ x : Jf, sub (Jk x) 0 1 = some [.b x.Set]) ∧
 (∀ (x : Jf) (y : Bool), spl (Jk x) 0 [.b y] = some (Jk ⟨y, x.Data⟩)) ∧
 (∀ x : Jf, sub (Jk x) 1 1 = some [.s x.Data]) ∧
 (∀ (x : Jf) (y : List UInt8), spl (Jk x) 1 [.s y] = some (Jk ⟨x.Set, y⟩)) ∧
 ((default : Jf) = (⟨false, []⟩ : Jf)) ∧
 (∀ x : Jf, sub (Jk x) 0 2 = some (Jk x)) ∧
 (∀ x y : Jf, spl (Jk x) 0 (Jk y) = some (Jk y)) :=
 ⟨@JQ, @Ja8, @Jje, @J7x, @JhC, JoR, @JmV, @Jmp⟩
theorem J0l : (∀ x : Jf, Jk x = (cat [.b x.Set] [.s x.Data])) ∧ (default : Jf) = (⟨false, []⟩ : Jf) := ⟨fun _ => rfl, rfl⟩
theorem J2 : (∀ v : Vector Jf 16, (JV Jk v).length = 32) ∧ (∀ v : Vector Jf 16, sub (JV Jk v) 0 32 = some (JV Jk v)) ∧ (∀ v y : Vector Jf 16, spl (JV Jk v) 0 (JV Jk y) = some (JV Jk y)) :=
 ⟨fun v => J5U JQ v, fun v => Jbh (J5U JQ v), fun v y => Jbp ((J5U JQ v).trans (J5U JQ y).symm)⟩
structure T_api_Page where
 ID : Int
 LSN : Int
 Cells : Vector Jf 16
 deriving DecidableEq
instance : Inhabited T_api_Page := ⟨⟨0, 0, (Vector.replicate 16 (⟨false, []⟩ : Jf))⟩⟩
def J4 (x : T_api_Page) : List PV := (cat [.i .i64 x.ID] (cat [.i .i64 x.LSN] ((JV Jk) x.Cells)))
theorem JaA (x : T_api_Page) : (J4 x).length = 34 := by
 simp only [cat, J4, (J5U JQ x.Cells), List.length_append, List.length_cons, List.length_nil]
theorem Jku (x : T_api_Page) : sub (J4 x) 0 1 = some [.i .i64 x.ID] := by unfold J4; exact J9y rfl
theorem Jkm (x : T_api_Page) (y : Int) : spl (J4 x) 0 [.i .i64 y] = some (J4 ⟨y, x.LSN, x.Cells⟩) := by unfold J4; exact J9p rfl
theorem Jj4 (x : T_api_Page) : sub (J4 x) 1 1 = some [.i .i64 x.LSN] := by
 have e0 : J4 x = cat [.i .i64 x.ID] (cat [.i .i64 x.LSN] ((JV Jk) x.Cells)) := by unfold J4; simp only [cat, List.append_assoc]
 rw [e0]; exact JbB (by simp only [cat, List.length_append, List.length_cons, List.length_nil, (J5U JQ x.Cells)]) rfl
theorem Jig (x : T_api_Page) (y : Int) : spl (J4 x) 1 [.i .i64 y] = some (J4 ⟨x.ID, y, x.Cells⟩) := by
 have e0 : J4 x = cat [.i .i64 x.ID] (cat [.i .i64 x.LSN] ((JV Jk) x.Cells)) := by unfold J4; simp only [cat, List.append_assoc]
 have e1 : J4 ⟨x.ID, y, x.Cells⟩ = cat [.i .i64 x.ID] (cat [.i .i64 y] ((JV Jk) x.Cells)) := by unfold J4; simp only [cat, List.append_assoc]
 rw [e0, e1]; exact JbA (by simp only [cat, List.length_append, List.length_cons, List.length_nil, (J5U JQ x.Cells)]) rfl
theorem J11 (x : T_api_Page) : sub (J4 x) 2 32 = some ((JV Jk) x.Cells) := by
 have e0 : J4 x = cat (cat [.i .i64 x.ID] [.i .i64 x.LSN]) ((JV Jk) x.Cells) := by unfold J4; simp only [cat, List.append_assoc]
 rw [e0]; exact Jau (by simp only [cat, List.length_append, List.length_cons, List.length_nil, (J5U JQ x.Cells)]) (J5U JQ _)
theorem J7c (x : T_api_Page) (y : Vector Jf 16) : spl (J4 x) 2 ((JV Jk) y) = some (J4 ⟨x.ID, x.LSN, y⟩) := by
 have e0 : J4 x = cat (cat [.i .i64 x.ID] [.i .i64 x.LSN]) ((JV Jk) x.Cells) := by unfold J4; simp only [cat, List.append_assoc]
 have e1 : J4 ⟨x.ID, x.LSN, y⟩ = cat (cat [.i .i64 x.ID] [.i .i64 x.LSN]) ((JV Jk) y) := by unfold J4; simp only [cat, List.append_assoc]
 rw [e0, e1]; exact JaD (by simp only [cat, List.length_append, List.length_cons, List.length_nil, (J5U JQ x.Cells)]) ((J5U JQ _).trans (J5U JQ _).symm)
theorem Jns : (default : T_api_Page) = (⟨0, 0, (Vector.replicate 16 (⟨false, []⟩ : Jf))⟩ : T_api_Page) := rfl
theorem JmU (x : T_api_Page) : sub (J4 x) 0 34 = some (J4 x) := Jbh (JaA x)
theorem Jnf (x y : T_api_Page) : spl (J4 x) 0 (J4 y) = some (J4 y) := Jbp ((JaA x).trans (JaA y).symm)
theorem J6 : (∀ x : T_api_Page, (J4 x).length = 34) ∧
 (∀ x : T_api_Page, sub (J4 x) 0 1 = some [.i .i64 x.ID]) ∧
 (∀ (x : T_api_Page) (y : Int), spl (J4 x) 0 [.i .i64 y] = some (J4 ⟨y, x.LSN, x.Cells⟩)) ∧
 (∀ x : T_api_Page, sub (J4 x) 1 1 = some [.i .i64 x.LSN]) ∧
 (∀ (x : T_api_Page) (y : Int), spl (J4 x) 1 [.i .i64 y] = some (J4 ⟨x.ID, y, x.Cells⟩)) ∧
 (∀ x : T_api_Page, sub (J4 x) 2 32 = some ((JV Jk) x.Cells)) ∧
 (∀ (x : T_api_Page) (y : Vector Jf 16), spl (J4 x) 2 ((JV Jk) y) = some (J4 ⟨x.ID, x.LSN, y⟩)) ∧
 ((default : T_api_Page) = (⟨0, 0, (Vector.replicate 16 (⟨false, []⟩ : Jf))⟩ : T_api_Page)) ∧
 (∀ x : T_api_Page, sub (J4 x) 0 34 = some (J4 x)) ∧
 (∀ x y : T_api_Page, spl (J4 x) 0 (J4 y) = some (J4 y)) :=
 ⟨@JaA, @Jku, @Jkm, @Jj4, @Jig, @J11, @J7c, Jns, @JmU, @Jnf⟩
structure T_pagemenddraw_Codes where
 l_ : List Int
 at_ : Int
 deriving DecidableEq
instance : Inhabited T_pagemenddraw_Codes := ⟨⟨[], 0⟩⟩
def J0 (x : T_pagemenddraw_Codes) : List PV := (cat [.sl 1 (List.map (r_i .u8) x.l_)] [.i .i64 x.at_])
theorem J5m (x : T_pagemenddraw_Codes) : (J0 x).length = 2 := by
 simp only [cat, J0, List.length_append, List.length_cons, List.length_nil]
theorem Jcl (x : T_pagemenddraw_Codes) : sub (J0 x) 0 1 = some [.sl 1 (List.map (r_i .u8) x.l_)] := by unfold J0; exact J9y rfl
theorem Jc9 (x : T_pagemenddraw_Codes) (y : List Int) : spl (J0 x) 0 [.sl 1 (List.map (r_i .u8) y)] = some (J0 ⟨y, x.at_⟩) := by unfold J0; exact J9p rfl
theorem JbP (x : T_pagemenddraw_Codes) : sub (J0 x) 1 1 = some [.i .i64 x.at_] := by
 have e0 : J0 x = cat [.sl 1 (List.map (r_i .u8) x.l_)] [.i .i64 x.at_] := by unfold J0; simp only [cat, List.append_assoc]
 rw [e0]; exact Jau (by simp only [cat, List.length_append, List.length_cons, List.length_nil]) rfl
theorem JbY (x : T_pagemenddraw_Codes) (y : Int) : spl (J0 x) 1 [.i .i64 y] = some (J0 ⟨x.l_, y⟩) := by
 have e0 : J0 x = cat [.sl 1 (List.map (r_i .u8) x.l_)] [.i .i64 x.at_] := by unfold J0; simp only [cat, List.append_assoc]
 have e1 : J0 ⟨x.l_, y⟩ = cat [.sl 1 (List.map (r_i .u8) x.l_)] [.i .i64 y] := by unfold J0; simp only [cat, List.append_assoc]
 rw [e0, e1]; exact JaD (by simp only [cat, List.length_append, List.length_cons, List.length_nil]) rfl
theorem JdP : (default : T_pagemenddraw_Codes) = (⟨[], 0⟩ : T_pagemenddraw_Codes) := rfl
theorem Jdb (x : T_pagemenddraw_Codes) : sub (J0 x) 0 2 = some (J0 x) := Jbh (J5m x)
theorem Jde (x y : T_pagemenddraw_Codes) : spl (J0 x) 0 (J0 y) = some (J0 y) := Jbp ((J5m x).trans (J5m y).symm)
theorem Jd : (∀ x : T_pagemenddraw_Codes, (J0 x).length = 2) ∧
 (∀ x : T_pagemenddraw_Codes, sub (J0 x) 0 1 = some [.sl 1 (List.map (r_i .u8) x.l_)]) ∧
 (∀ (x : T_pagemenddraw_Codes) (y : List Int), spl (J0 x) 0 [.sl 1 (List.map (r_i .u8) y)] = some (J0 ⟨y, x.at_⟩)) ∧
 (∀ x : T_pagemenddraw_Codes, sub (J0 x) 1 1 = some [.i .i64 x.at_]) ∧
 (∀ (x : T_pagemenddraw_Codes) (y : Int), spl (J0 x) 1 [.i .i64 y] = some (J0 ⟨x.l_, y⟩)) ∧
 ((default : T_pagemenddraw_Codes) = (⟨[], 0⟩ : T_pagemenddraw_Codes)) ∧
 (∀ x : T_pagemenddraw_Codes, sub (J0 x) 0 2 = some (J0 x)) ∧
 (∀ x y : T_pagemenddraw_Codes, spl (J0 x) 0 (J0 y) = some (J0 y)) :=
 ⟨@J5m, @Jcl, @Jc9, @JbP, @JbY, JdP, @Jdb, @Jde⟩
theorem Jw : (∀ x : T_pagemenddraw_Codes, J0 x = (cat [.sl 1 (List.map (r_i .u8) x.l_)] [.i .i64 x.at_])) ∧ (default : T_pagemenddraw_Codes) = (⟨[], 0⟩ : T_pagemenddraw_Codes) := ⟨fun _ => rfl, rfl⟩
structure T_page_builder where
 s_ : List UInt8
 deriving DecidableEq
instance : Inhabited T_page_builder := ⟨⟨[]⟩⟩
def J0x (x : T_page_builder) : List PV := [.s x.s_]
theorem JB : (∀ x : T_page_builder, J0x x = [.s x.s_]) ∧ (default : T_page_builder) = (⟨[]⟩ : T_page_builder) := ⟨fun _ => rfl, rfl⟩
theorem J76 : (∀ v : Vector Int 16, (JV (r_i .u32) v).length = 16) ∧ (∀ v : Vector Int 16, sub (JV (r_i .u32) v) 0 16 = some (JV (r_i .u32) v)) ∧ (∀ v y : Vector Int 16, spl (JV (r_i .u32) v) 0 (JV (r_i .u32) y) = some (JV (r_i .u32) y)) :=
 ⟨fun v => J5U (Jbd .u32) v, fun v => Jbh (J5U (Jbd .u32) v), fun v y => Jbp ((J5U (Jbd .u32) v).trans (J5U (Jbd .u32) y).symm)⟩
theorem Jn5 (x y : T_api_Copy) : J1E [(.i .i64), (.i .i64), .s] (J5 x) (J5 y) = some (decide (x = y)) := by
 have h := (Jq1 (Jus .i64 x.Page y.Page) (Jq1 (Jus .i64 x.LSN y.LSN) (Jxx x.Data y.Data)))
 have e : decide (x.Page = y.Page ∧ (x.LSN = y.LSN ∧ (x.Data = y.Data))) = decide (x = y) := decide_eq_decide.2 (by cases x; cases y; simp only [T_api_Copy.mk.injEq])
 exact h.trans (congrArg some e)
theorem JcK (x y : T_api_Copy) : J1E [(.i .i64), (.i .i64), .s] (J5 x) (J5 y) = some (x == y) := Jn5 x y
end Go.Am
end
section
namespace Go.Am
set_option maxRecDepth 8000
set_option maxHeartbeats 4000000
set_option linter.unusedSimpArgs false
set_option linter.unusedVariables false
abbrev J79 : FuncId := 3
abbrev J6U : FuncId := 18
abbrev J9s : FuncId := 19
abbrev J7R : FuncId := 20
abbrev J7p : FuncId := 21
abbrev J0M : FuncId := 22
abbrev J5j : FuncId := 23
abbrev J1O : FuncId := 24
abbrev J6a : FuncId := 25
abbrev J6i : FuncId := 26
abbrev J7N : FuncId := 27
abbrev J4A : FuncId := 30
abbrev Jb : FuncId := 31
abbrev J5l : FuncId := 32
abbrev J5Q : FuncId := 34
abbrev J6L : FuncId := 37
abbrev J7O : FuncId := 40
abbrev Ji7 : FuncId := 42
abbrev J40 : FuncId := 52
abbrev J4K : FuncId := 57
abbrev J4F : FuncId := 64
abbrev J4N : FuncId := 69
abbrev J6t : FuncId := 71
abbrev J7o : FuncId := 72
abbrev J2Z : FuncId := 105
abbrev J9P : FuncId := 107
abbrev J1p : FuncId := 108
abbrev J14 : FuncId := 110
abbrev J4J : FuncId := 111
abbrev J4o : FuncId := 112
abbrev J3t : FuncId := 113
abbrev J31 : FuncId := 114
abbrev J3Z : FuncId := 115
abbrev J4g : FuncId := 116
abbrev J2B : FuncId := 117
abbrev J30 : FuncId := 118
abbrev J4w : FuncId := 120
abbrev J6I : FuncId := 121
abbrev J3L : FuncId := 122
abbrev J5p : FuncId := 123
abbrev J3o : FuncId := 126
abbrev J6J : FuncId := 128
abbrev J7M : FuncId := 129
abbrev J0Q : FuncId := 130
abbrev J2k : FuncId := 131
abbrev J4c : FuncId := 132
abbrev JbV : FuncId := 137
abbrev J3T : FuncId := 138
abbrev J67 : FuncId := 139
abbrev J5x : FuncId := 170
abbrev J6V : FuncId := 171
abbrev J0w : FuncId := 177
abbrev J3D : FuncId := 178
abbrev J68 : FuncId := 179
abbrev J8z : FuncId := 180
abbrev J6q : FuncId := 184
abbrev J72 : FuncId := 185
abbrev J9x : FuncId := 186
abbrev J47 : FuncId := 191
abbrev J1m : FuncId := 195
abbrev Jag : FuncId := 196
abbrev J4C : FuncId := 216
abbrev J3M : FuncId := 219
abbrev J8y : FuncId := 220
def Jd5 : Jj := .seq (.reg false [] [⟨.mv (.t 0), some 12, none⟩,
  ⟨.build (J0 default) [(0, 1, (.t 12))], some 13, none⟩,
  ⟨.box 2 (.t 13), some 14, none⟩,
  ⟨.mv (.t 14), some 4, none⟩])
 (.ret)
def J9l : Jj := .seq (.reg false [] [⟨.mv (.c (.p .np)), some 4, none⟩])
 (.seq (.seq (.reg false [] [⟨.mv (.t 0), some 5, none⟩,
  ⟨.len false (.t 5), some 6, none⟩,
  ⟨.mv (.t 1), some 7, none⟩,
  ⟨.bin .gtr .plain (.t 6) (.t 7), some 8, none⟩])
 (.keep [0, 1, 8] (.cond (.t 8)
 (.reg false [] [⟨.mv (.t 0), some 9, none⟩,
   ⟨.mv (.t 1), some 10, none⟩,
   ⟨.slice (.sl 1) (.t 9) none (some (.t 10)) none, some 11, none⟩,
   ⟨.mv (.t 11), some 0, none⟩])
 (.skip))))
 (.keep [0] Jd5))
def J8g : AFn := ⟨2, 15, J9l, [.tmp 4], false⟩
def J2z : Jj := .seq (.seq (.reg false [] [⟨.mv (.t 5), some 27, none⟩,
  ⟨.faddr 2 (.t 2), some 28, none⟩,
  ⟨.load false 1 (.t 28), some 29, none⟩,
  ⟨.len false (.t 29), some 30, none⟩,
  ⟨.bin .lss .plain (.t 27) (.t 30), some 31, none⟩])
 (.keep [2, 3, 5, 31] (.cond (.t 31)
 (.skip)
 (.exit 0))))
 (.seq (.block 1 (.seq (.reg true [] [⟨.faddr 2 (.t 2), some 34, none⟩,
  ⟨.load false 1 (.t 34), some 35, none⟩,
  ⟨.mv (.t 5), some 36, none⟩,
  ⟨.iaddr 3 (.t 35) (.t 36), some 37, none⟩,
  ⟨.load true 3 (.t 37), some 38, none⟩,
  ⟨.faddr 2 (.t 3), some 39, none⟩,
  ⟨.load false 1 (.t 39), some 40, none⟩,
  ⟨.mv (.t 5), some 41, none⟩,
  ⟨.iaddr 3 (.t 40) (.t 41), some 42, none⟩,
  ⟨.load true 3 (.t 42), some 43, none⟩,
  ⟨.bin .neq (.flat [(.i .i64), (.i .i64), .s]) (.t 38) (.t 43), some 44, none⟩])
 (.keep [2, 3, 5, 44] (.cond (.t 44)
 (.seq (.reg false [] [⟨.mv (.c (.p (.b false))), some 4, none⟩])
  (.ret))
 (.skip)))))
 (.reg false [] [⟨.mv (.t 5), some 32, none⟩,
  ⟨.bin .add .plain (.t 32) (.c (.p (.i .i64 1))), some 33, none⟩,
  ⟨.mv (.t 33), some 5, none⟩]))
def J54 : Jj := .seq (.reg false [] [⟨.mv (.c (.p (.b true))), some 4, none⟩])
 (.ret)
def J3I : Jj := .seq (.reg false [] [⟨.box 3 (.t 0), some 2, none⟩,
  ⟨.box 3 (.t 1), some 3, none⟩,
  ⟨.mv (.c (.p (.b false))), some 4, none⟩])
 (.keep [2, 3] (.seq (.seq (.reg false [] [⟨.faddr 0 (.t 2), some 6, none⟩,
  ⟨.load false 1 (.t 6), some 7, none⟩,
  ⟨.faddr 0 (.t 3), some 8, none⟩,
  ⟨.load false 1 (.t 8), some 9, none⟩,
  ⟨.bin .neq .plain (.t 7) (.t 9), some 10, none⟩,
  ⟨.mv (.t 10), some 11, none⟩,
  ⟨.faddr 1 (.t 2), some 12, some (11, false)⟩,
  ⟨.load false 1 (.t 12), some 13, some (11, false)⟩,
  ⟨.faddr 1 (.t 3), some 14, some (11, false)⟩,
  ⟨.load false 1 (.t 14), some 15, some (11, false)⟩,
  ⟨.bin .neq .plain (.t 13) (.t 15), some 16, some (11, false)⟩,
  ⟨.pick (.t 11) (.c (.p (.b true))) (.t 16), some 17, none⟩,
  ⟨.mv (.t 17), some 18, none⟩,
  ⟨.faddr 2 (.t 2), some 19, some (18, false)⟩,
  ⟨.load false 1 (.t 19), some 20, some (18, false)⟩,
  ⟨.len false (.t 20), some 21, some (18, false)⟩,
  ⟨.faddr 2 (.t 3), some 22, some (18, false)⟩,
  ⟨.load false 1 (.t 22), some 23, some (18, false)⟩,
  ⟨.len false (.t 23), some 24, some (18, false)⟩,
  ⟨.bin .neq .plain (.t 21) (.t 24), some 25, some (18, false)⟩,
  ⟨.pick (.t 18) (.c (.p (.b true))) (.t 25), some 26, none⟩])
 (.keep [2, 3, 26] (.cond (.t 26)
 (.seq (.reg false [] [⟨.mv (.c (.p (.b false))), some 4, none⟩])
  (.ret))
 (.skip))))
 (.seq (.seq (.reg false [] [⟨.mv (.c (.p (.i .i64 0))), some 5, none⟩])
 (.block 0 (.loop [2, 3, 5] J2z)))
 (.keep [] J54))))
def J2X : AFn := ⟨2, 45, J3I, [.tmp 4], false⟩
def J1q : Jj := .seq (.reg false [] [⟨.mv (.c (.p (.i .i64 0))), some 4, none⟩])
 (.seq (.seq (.reg true [] [⟨.mv (.t 0), some 6, none⟩,
  ⟨.nilchk (.t 6), some 7, none⟩,
  ⟨.faddr 1 (.t 7), some 8, none⟩,
  ⟨.load false 1 (.t 8), some 9, none⟩,
  ⟨.mv (.t 0), some 10, none⟩,
  ⟨.nilchk (.t 10), some 11, none⟩,
  ⟨.faddr 0 (.t 11), some 12, none⟩,
  ⟨.load false 1 (.t 12), some 13, none⟩,
  ⟨.len false (.t 13), some 14, none⟩,
  ⟨.bin .geq .plain (.t 9) (.t 14), some 15, none⟩,
  ⟨.mv (.t 15), some 16, none⟩,
  ⟨.mv (.t 1), some 17, some (16, false)⟩,
  ⟨.bin .lss .plain (.t 17) (.c (.p (.i .i64 1))), some 18, some (16, false)⟩,
  ⟨.pick (.t 16) (.c (.p (.b true))) (.t 18), some 19, none⟩])
 (.keep [0, 1, 19] (.cond (.t 19)
 (.seq (.reg false [] [⟨.mv (.c (.p (.i .i64 0))), some 4, none⟩])
  (.ret))
 (.skip))))
 (.seq (.reg true [] [⟨.mv (.t 0), some 20, none⟩,
  ⟨.nilchk (.t 20), some 21, none⟩,
  ⟨.faddr 0 (.t 21), some 22, none⟩,
  ⟨.load false 1 (.t 22), some 23, none⟩,
  ⟨.mv (.t 0), some 24, none⟩,
  ⟨.nilchk (.t 24), some 25, none⟩,
  ⟨.faddr 1 (.t 25), some 26, none⟩,
  ⟨.load false 1 (.t 26), some 27, none⟩,
  ⟨.iaddr 1 (.t 23) (.t 27), some 28, none⟩,
  ⟨.load false 1 (.t 28), some 29, none⟩,
  ⟨.conv (.int .i64) (.t 29), some 30, none⟩,
  ⟨.mv (.t 30), some 5, none⟩])
 (.keep [0, 1, 5] (.seq (.reg false [] [⟨.mv (.t 0), some 31, none⟩,
  ⟨.nilchk (.t 31), some 32, none⟩,
  ⟨.faddr 1 (.t 32), some 33, none⟩,
  ⟨.load false 1 (.t 33), some 34, none⟩,
  ⟨.bin .add .plain (.t 34) (.c (.p (.i .i64 1))), some 35, none⟩,
  ⟨.nilchk (.t 31), some 36, none⟩,
  ⟨.faddr 1 (.t 36), some 37, none⟩,
  ⟨.store 1 (.t 37) (.t 35), none, none⟩])
 (.keep [0, 1, 5] (.seq (.seq (.reg false [] [⟨.mv (.t 1), some 38, none⟩,
  ⟨.bin .gtr .plain (.t 38) (.c (.p (.i .i64 256))), some 39, none⟩])
 (.cond (.t 39)
 (.seq (.reg false [] [⟨.mv (.t 5), some 40, none⟩,
   ⟨.bin .mul .plain (.c (.p (.i .i64 256))) (.t 40), some 41, none⟩,
   ⟨.mv (.t 0), some 42, none⟩,
   ⟨.call Jb [(.t 42), (.c (.p (.i .i64 256)))] 0, some 43, none⟩,
   ⟨.bin .add .plain (.t 41) (.t 43), some 44, none⟩,
   ⟨.mv (.t 1), some 45, none⟩,
   ⟨.bin .rem .plain (.t 44) (.t 45), some 46, none⟩,
   ⟨.mv (.t 46), some 4, none⟩])
  (.ret))
 (.skip)))
 (.seq (.reg false [] [⟨.mv (.t 5), some 47, none⟩,
  ⟨.mv (.t 1), some 48, none⟩,
  ⟨.bin .rem .plain (.t 47) (.t 48), some 49, none⟩,
  ⟨.mv (.t 49), some 4, none⟩])
 (.ret))))))))
def J4D : AFn := ⟨2, 50, J1q, [.tmp 4], false⟩
def J1C : Jj := .seq (.seq (.reg false [] [⟨.mv (.t 5), some 10, none⟩,
  ⟨.mv (.t 3), some 11, none⟩,
  ⟨.len false (.t 11), some 12, none⟩,
  ⟨.bin .lss .plain (.t 10) (.t 12), some 13, none⟩])
 (.keep [0, 3, 4, 5, 13] (.cond (.t 13)
 (.skip)
 (.exit 0))))
 (.seq (.block 1 (.reg false [] [⟨.mv (.t 3), some 16, none⟩,
  ⟨.mv (.t 5), some 17, none⟩,
  ⟨.mv (.t 4), some 18, none⟩,
  ⟨.iaddr 1 (.t 16) (.t 17), some 19, none⟩,
  ⟨.store 1 (.t 19) (.t 18), none, none⟩]))
 (.reg false [] [⟨.mv (.t 5), some 14, none⟩,
  ⟨.bin .add .plain (.t 14) (.c (.p (.i .i64 1))), some 15, none⟩,
  ⟨.mv (.t 15), some 5, none⟩]))
def J2h : Jj := .seq (.reg false [] [⟨.mv (.t 3), some 20, none⟩,
  ⟨.mv (.t 0), some 21, none⟩,
  ⟨.call Jb [(.t 21), (.c (.p (.i .i64 256)))] 0, some 22, none⟩,
  ⟨.mv (.t 0), some 23, none⟩,
  ⟨.call Jb [(.t 23), (.c (.p (.i .i64 256)))] 0, some 24, none⟩,
  ⟨.conv (.int .u8) (.t 24), some 25, none⟩,
  ⟨.iaddr 1 (.t 20) (.t 22), some 26, none⟩,
  ⟨.store 1 (.t 26) (.t 25), none, none⟩])
 (.keep [3] (.seq (.reg false [] [⟨.mv (.t 3), some 27, none⟩,
  ⟨.conv .toStr (.t 27), some 28, none⟩,
  ⟨.mv (.t 28), some 2, none⟩])
 (.ret)))
def J5r : Jj := .seq (.reg false [] [⟨.mv (.c (.p (.s []))), some 2, none⟩])
 (.seq (.reg false [] [⟨.mkslice true 1 1 [(.i .u8 0)] (.c (.p (.i .i64 256))) (.c (.p (.i .i64 256))), some 6, none⟩,
  ⟨.mv (.t 6), some 3, none⟩])
 (.seq (.reg false [] [⟨.mv (.t 0), some 7, none⟩,
  ⟨.call Jb [(.t 7), (.c (.p (.i .i64 256)))] 0, some 8, none⟩,
  ⟨.conv (.int .u8) (.t 8), some 9, none⟩,
  ⟨.mv (.t 9), some 4, none⟩])
 (.keep [0, 3, 4] (.seq (.seq (.reg false [] [⟨.mv (.c (.p (.i .i64 0))), some 5, none⟩])
 (.block 0 (.loop [0, 3, 4, 5] J1C)))
 (.keep [0, 3] J2h)))))
def J0K : AFn := ⟨1, 29, J5r, [.tmp 2], false⟩
def J1M : Jj := .seq (.seq (.reg false [] [⟨.mv (.t 5), some 15, none⟩,
  ⟨.mv (.t 3), some 16, none⟩,
  ⟨.bin .lss .plain (.t 15) (.t 16), some 17, none⟩])
 (.keep [0, 3, 4, 5, 17] (.cond (.t 17)
 (.skip)
 (.exit 0))))
 (.seq (.block 1 (.reg false [] [⟨.mv (.t 4), some 20, none⟩,
  ⟨.mv (.t 0), some 21, none⟩,
  ⟨.call Jb [(.t 21), (.c (.p (.i .i64 3)))] 0, some 22, none⟩,
  ⟨.bin .add .plain (.c (.p (.i .i64 97))) (.t 22), some 23, none⟩,
  ⟨.conv (.int .u8) (.t 23), some 24, none⟩,
  ⟨.lits false 1 1 [(.i .u8 0)] [(0, (.t 24))], some 25, none⟩,
  ⟨.app 1 1 [(.i .u8 0)] (.t 20) (.t 25), some 26, none⟩,
  ⟨.mv (.t 26), some 4, none⟩]))
 (.reg false [] [⟨.mv (.t 5), some 18, none⟩,
  ⟨.bin .add .plain (.t 18) (.c (.p (.i .i64 1))), some 19, none⟩,
  ⟨.mv (.t 19), some 5, none⟩]))
def J2H : Jj := .seq (.reg false [] [⟨.mv (.t 4), some 27, none⟩,
  ⟨.conv .toStr (.t 27), some 28, none⟩,
  ⟨.mv (.t 28), some 2, none⟩])
 (.ret)
def J8Q : Jj := .seq (.reg false [] [⟨.mv (.t 3), some 13, none⟩,
  ⟨.mkslice true 1 1 [(.i .u8 0)] (.c (.p (.i .i64 0))) (.t 13), some 14, none⟩,
  ⟨.mv (.t 14), some 4, none⟩])
 (.keep [0, 3, 4] (.seq (.seq (.reg false [] [⟨.mv (.c (.p (.i .i64 0))), some 5, none⟩])
 (.block 0 (.loop [0, 3, 4, 5] J1M)))
 (.keep [4] J2H)))
def J3j : Jj := .seq (.reg false [] [⟨.mv (.c (.p (.s []))), some 2, none⟩])
 (.seq (.reg false [] [⟨.mv (.t 0), some 6, none⟩,
  ⟨.call Jb [(.t 6), (.c (.p (.i .i64 5)))] 0, some 7, none⟩,
  ⟨.mv (.t 7), some 3, none⟩])
 (.keep [0, 3] (.seq (.seq (.reg false [] [⟨.mv (.t 0), some 8, none⟩,
  ⟨.call Jb [(.t 8), (.c (.p (.i .i64 6)))] 0, some 9, none⟩,
  ⟨.bin .eql .plain (.t 9) (.c (.p (.i .i64 0))), some 10, none⟩])
 (.keep [0, 3, 10] (.cond (.t 10)
 (.reg false [] [⟨.mv (.t 0), some 11, none⟩,
   ⟨.call Jb [(.t 11), (.c (.p (.i .i64 14)))] 0, some 12, none⟩,
   ⟨.mv (.t 12), some 3, none⟩])
 (.skip))))
 (.keep [0, 3] J8Q))))
def J0D : AFn := ⟨1, 29, J3j, [.tmp 2], false⟩
def J2g : Jj := .seq (.reg false [] [⟨.mv (.c (.p (.i .i64 0))), some 2, none⟩])
 (.seq (.seq (.reg false [] [⟨.mv (.t 0), some 3, none⟩,
  ⟨.call Jb [(.t 3), (.c (.p (.i .i64 10)))] 0, some 4, none⟩])
 (.block 0 (.seq (.reg false [] [⟨.bin .eql .plain (.t 4) (.c (.p (.i .i64 0))), some 6, none⟩,
  ⟨.mv (.t 6), some 5, none⟩])
 (.cond (.t 5)
 (.seq (.reg false [] [⟨.mv (.t 0), some 7, none⟩,
   ⟨.call Jb [(.t 7), (.c (.p (.i .i64 3)))] 0, some 8, none⟩,
   ⟨.bin .sub .plain (.c (.p (.i .i64 (-1)))) (.t 8), some 9, none⟩,
   ⟨.mv (.t 9), some 2, none⟩])
  (.ret))
 (.seq (.reg false [] [⟨.bin .eql .plain (.t 4) (.c (.p (.i .i64 1))), some 11, none⟩,
   ⟨.mv (.t 11), some 10, none⟩])
  (.cond (.t 10)
  (.seq (.reg false [] [⟨.lits false 1 16 [(.i .i64 0)] [(0, (.c (.p (.i .i64 9223372036854775807)))), (1, (.c (.p (.i .i64 (-9223372036854775808))))), (2, (.c (.p (.i .i64 1099511627776)))), (3, (.c (.p (.i .i64 1099511627777)))), (4, (.c (.p (.i .i64 1073741824)))), (5, (.c (.p (.i .i64 1073741825)))), (6, (.c (.p (.i .i64 64)))), (7, (.c (.p (.i .i64 63)))), (8, (.c (.p (.i .i64 16)))), (9, (.c (.p (.i .i64 15)))), (10, (.c (.p (.i .i64 256)))), (11, (.c (.p (.i .i64 255)))), (12, (.c (.p (.i .i64 4294967296)))), (13, (.c (.p (.i .i64 65536)))), (14, (.c (.p (.i .i64 256)))), (15, (.c (.p (.i .i64 255))))], some 12, none⟩,
    ⟨.mv (.t 0), some 13, none⟩,
    ⟨.call Jb [(.t 13), (.c (.p (.i .i64 16)))] 0, some 14, none⟩,
    ⟨.iaddr 1 (.t 12) (.t 14), some 15, none⟩,
    ⟨.load false 1 (.t 15), some 16, none⟩,
    ⟨.mv (.t 16), some 2, none⟩])
   (.ret))
  (.skip)))))))
 (.seq (.reg false [] [⟨.mv (.t 0), some 17, none⟩,
  ⟨.call Jb [(.t 17), (.c (.p (.i .i64 20)))] 0, some 18, none⟩,
  ⟨.mv (.t 18), some 2, none⟩])
 (.ret)))
def J58 : AFn := ⟨1, 19, J2g, [.tmp 2], false⟩
def J4G : Jj := .seq (.seq (.reg false [] [⟨.mv (.t 7), some 15, none⟩,
  ⟨.mv (.t 2), some 16, none⟩,
  ⟨.bin .lss .plain (.t 15) (.t 16), some 17, none⟩])
 (.keep [0, 1, 2, 7, 17] (.cond (.t 17)
 (.skip)
 (.exit 0))))
 (.seq (.block 1 (.reg false [] [⟨.mv (.t 0), some 20, none⟩,
  ⟨.mv (.t 1), some 21, none⟩,
  ⟨.conv (.int .u64) (.t 21), some 22, none⟩,
  ⟨.mv (.t 7), some 23, none⟩,
  ⟨.bin .mul .plain (.c (.p (.i .i64 8))) (.t 23), some 24, none⟩,
  ⟨.conv (.int .u64) (.t 24), some 25, none⟩,
  ⟨.bin .shr .plain (.t 22) (.t 25), some 26, none⟩,
  ⟨.conv (.int .u8) (.t 26), some 27, none⟩,
  ⟨.lits false 1 1 [(.i .u8 0)] [(0, (.t 27))], some 28, none⟩,
  ⟨.conv .toStr (.t 28), some 29, none⟩,
  ⟨.bin .add .plain (.t 20) (.t 29), some 30, none⟩,
  ⟨.mv (.t 30), some 0, none⟩]))
 (.reg false [] [⟨.mv (.t 7), some 18, none⟩,
  ⟨.bin .add .plain (.t 18) (.c (.p (.i .i64 1))), some 19, none⟩,
  ⟨.mv (.t 19), some 7, none⟩]))
def J5R : Jj := .seq (.reg false [] [⟨.mv (.t 0), some 31, none⟩,
  ⟨.mv (.t 31), some 6, none⟩])
 (.ret)
def J65 : Jj := .seq (.reg false [] [⟨.mv (.c (.p (.s []))), some 6, none⟩])
 (.seq (.seq (.reg false [] [⟨.mv (.t 2), some 8, none⟩,
  ⟨.bin .lss .plain (.t 8) (.c (.p (.i .i64 1))), some 9, none⟩,
  ⟨.mv (.t 9), some 10, none⟩,
  ⟨.mv (.t 2), some 11, some (10, false)⟩,
  ⟨.bin .gtr .plain (.t 11) (.c (.p (.i .i64 8))), some 12, some (10, false)⟩,
  ⟨.pick (.t 10) (.c (.p (.b true))) (.t 12), some 13, none⟩])
 (.keep [0, 1, 2, 13] (.cond (.t 13)
 (.seq (.reg false [] [⟨.mv (.t 0), some 14, none⟩,
   ⟨.mv (.t 14), some 6, none⟩])
  (.ret))
 (.skip))))
 (.seq (.seq (.reg false [] [⟨.mv (.c (.p (.i .i64 0))), some 7, none⟩])
 (.block 0 (.loop [0, 1, 2, 7] J4G)))
 (.keep [0] J5R)))
def J3G : AFn := ⟨3, 32, J65, [.tmp 6], false⟩
def J4I : Jj := .seq (.reg false [] [⟨.bin .lss .plain (.t 35) (.t 34), some 36, none⟩])
 (.seq (.cond (.t 36)
 (.skip)
 (.exit 1))
 (.seq (.block 2 (.seq (.reg false [] [⟨.mv (.t 35), some 37, none⟩,
  ⟨.mv (.t 37), some 9, none⟩])
 (.reg false [] [⟨.mv (.t 8), some 38, none⟩,
  ⟨.mv (.t 0), some 39, none⟩,
  ⟨.mv (.t 1), some 40, none⟩,
  ⟨.mv (.t 9), some 41, none⟩,
  ⟨.bin .add .plain (.t 40) (.t 41), some 42, none⟩,
  ⟨.sidx (.t 39) (.t 42), some 43, none⟩,
  ⟨.conv (.int .u64) (.t 43), some 44, none⟩,
  ⟨.mv (.t 9), some 45, none⟩,
  ⟨.bin .mul .plain (.c (.p (.i .i64 8))) (.t 45), some 46, none⟩,
  ⟨.bin .shl .plain (.t 44) (.t 46), some 47, none⟩,
  ⟨.bin .or .plain (.t 38) (.t 47), some 48, none⟩,
  ⟨.mv (.t 48), some 8, none⟩])))
 (.reg false [] [⟨.bin .add .plain (.t 35) (.c (.p (.i .i64 1))), some 49, none⟩,
  ⟨.mv (.t 49), some 35, none⟩])))
def J5G : Jj := .seq (.reg false [] [⟨.mv (.t 8), some 50, none⟩,
  ⟨.conv (.int .i64) (.t 50), some 51, none⟩,
  ⟨.mv (.t 51), some 6, none⟩,
  ⟨.mv (.c (.p (.i .i64 0))), some 7, none⟩])
 (.ret)
def J23 : Jj := .seq (.reg false [] [⟨.mv (.c (.p (.i .i64 0))), some 6, none⟩,
  ⟨.mv (.c (.p (.i .i64 0))), some 7, none⟩])
 (.seq (.block 0 (.seq (.reg false [] [⟨.mv (.t 2), some 11, none⟩,
  ⟨.bin .lss .plain (.t 11) (.c (.p (.i .i64 1))), some 12, none⟩,
  ⟨.mv (.t 12), some 13, none⟩,
  ⟨.mv (.t 2), some 14, some (13, false)⟩,
  ⟨.bin .gtr .plain (.t 14) (.c (.p (.i .i64 8))), some 15, some (13, false)⟩,
  ⟨.pick (.t 13) (.c (.p (.b true))) (.t 15), some 16, none⟩,
  ⟨.mv (.t 16), some 17, none⟩,
  ⟨.mv (.t 1), some 18, some (17, false)⟩,
  ⟨.bin .lss .plain (.t 18) (.c (.p (.i .i64 0))), some 19, some (17, false)⟩,
  ⟨.pick (.t 17) (.c (.p (.b true))) (.t 19), some 20, none⟩,
  ⟨.mv (.t 20), some 10, none⟩])
 (.keep [0, 1, 2, 10] (.cond (.t 10)
 (.seq (.reg false [] [⟨.mv (.c (.p (.i .i64 0))), some 6, none⟩,
   ⟨.mv (.c (.p (.i .i64 1))), some 7, none⟩])
  (.ret))
 (.seq (.reg false [] [⟨.mv (.t 1), some 22, none⟩,
   ⟨.mv (.t 0), some 23, none⟩,
   ⟨.len true (.t 23), some 24, none⟩,
   ⟨.bin .gtr .plain (.t 22) (.t 24), some 25, none⟩,
   ⟨.mv (.t 25), some 26, none⟩,
   ⟨.mv (.t 0), some 27, some (26, false)⟩,
   ⟨.len true (.t 27), some 28, some (26, false)⟩,
   ⟨.mv (.t 1), some 29, some (26, false)⟩,
   ⟨.bin .sub .plain (.t 28) (.t 29), some 30, some (26, false)⟩,
   ⟨.mv (.t 2), some 31, some (26, false)⟩,
   ⟨.bin .lss .plain (.t 30) (.t 31), some 32, some (26, false)⟩,
   ⟨.pick (.t 26) (.c (.p (.b true))) (.t 32), some 33, none⟩,
   ⟨.mv (.t 33), some 21, none⟩])
  (.keep [0, 1, 2, 21] (.cond (.t 21)
  (.seq (.reg false [] [⟨.mv (.c (.p (.i .i64 0))), some 6, none⟩,
    ⟨.mv (.c (.p (.i .i64 5))), some 7, none⟩])
   (.ret))
  (.skip))))))))
 (.seq (.reg false [] [⟨.mv (.c (.p (.i .u64 0))), some 8, none⟩])
 (.seq (.seq (.reg false [] [⟨.mv (.t 2), some 34, none⟩,
  ⟨.mv (.c (.p (.i .i64 0))), some 35, none⟩])
 (.block 1 (.loop [0, 1, 8, 34, 35] J4I)))
 (.keep [8] J5G))))
def J3B : AFn := ⟨3, 52, J23, [.tmp 6, .tmp 7], false⟩
def J3k : Jj := .seq (.reg false [] [⟨.newbox (Jk default), some 2, none⟩])
 (.seq (.seq (.reg false [] [⟨.mv (.t 0), some 4, none⟩,
  ⟨.call Jb [(.t 4), (.c (.p (.i .i64 3)))] 0, some 5, none⟩,
  ⟨.bin .eql .plain (.t 5) (.c (.p (.i .i64 0))), some 6, none⟩])
 (.keep [0, 2, 6] (.cond (.t 6)
 (.seq (.reg false [] [⟨.build (Jk default) [], some 7, none⟩,
   ⟨.store 2 (.t 2) (.t 7), none, none⟩])
  (.ret))
 (.skip))))
 (.seq (.reg false [] [⟨.mv (.t 0), some 8, none⟩,
  ⟨.call J4F [(.t 8)] 0, some 9, none⟩,
  ⟨.mv (.t 9), some 3, none⟩])
 (.keep [2, 3] (.seq (.reg false [] [⟨.mv (.t 3), some 10, none⟩,
  ⟨.mv (.t 3), some 11, none⟩,
  ⟨.len true (.t 11), some 12, none⟩,
  ⟨.mm false (.t 12) (.c (.p (.i .i64 12))), some 13, none⟩,
  ⟨.slice .str (.t 10) none (some (.t 13)) none, some 14, none⟩,
  ⟨.build (Jk default) [(0, 1, (.c (.p (.b true)))), (1, 1, (.t 14))], some 15, none⟩,
  ⟨.store 2 (.t 2) (.t 15), none, none⟩])
 (.ret)))))
def J4y : AFn := ⟨1, 16, J3k, [.cell 2 true 2], false⟩
def J8j : Jj := .seq (.reg false [] [⟨.mv (.c (.p (.s []))), some 2, none⟩])
 (.seq (.reg false [] [⟨.mv (.t 0), some 3, none⟩,
  ⟨.mkslice false 1 1 [(.i .u8 0)] (.t 3) (.t 3), some 4, none⟩,
  ⟨.conv .toStr (.t 4), some 5, none⟩,
  ⟨.mv (.t 5), some 2, none⟩])
 (.ret))
def J74 : AFn := ⟨1, 6, J8j, [.tmp 2], false⟩
def JbR : Jj := .reg false [] [⟨.mv (.t 5), some 20, none⟩,
  ⟨.bin .add .plain (.t 20) (.c (.p (.i .i64 1))), some 21, none⟩,
  ⟨.mv (.t 21), some 5, none⟩]
def J2n : Jj := .seq (.seq (.reg false [] [⟨.mv (.t 5), some 18, none⟩,
  ⟨.bin .lss .plain (.t 18) (.c (.p (.i .i64 8))), some 19, none⟩])
 (.cond (.t 19)
 (.skip)
 (.exit 2)))
 (.seq (.block 3 (.seq (.reg false [] [⟨.mv (.t 3), some 22, none⟩,
  ⟨.bin .and .plain (.t 22) (.c (.p (.i .u32 1))), some 23, none⟩,
  ⟨.bin .eql .plain (.t 23) (.c (.p (.i .u32 1))), some 24, none⟩])
 (.keep [0, 3, 4, 5, 24] (.cond (.t 24)
 (.reg false [] [⟨.mv (.t 3), some 25, none⟩,
   ⟨.bin .shr .plain (.t 25) (.c (.p (.i .u64 1))), some 26, none⟩,
   ⟨.bin .xor .plain (.t 26) (.c (.p (.i .u32 2197175160))), some 27, none⟩,
   ⟨.mv (.t 27), some 3, none⟩])
 (.reg false [] [⟨.mv (.t 3), some 28, none⟩,
   ⟨.bin .shr .plain (.t 28) (.c (.p (.i .u64 1))), some 29, none⟩,
   ⟨.mv (.t 29), some 3, none⟩])))))
 (.keep [0, 3, 4, 5] JbR))
def J4P : Jj := .reg false [] [⟨.mv (.t 4), some 10, none⟩,
  ⟨.bin .add .plain (.t 10) (.c (.p (.i .i64 1))), some 11, none⟩,
  ⟨.mv (.t 11), some 4, none⟩]
def J1i : Jj := .seq (.seq (.reg false [] [⟨.mv (.t 4), some 6, none⟩,
  ⟨.mv (.t 0), some 7, none⟩,
  ⟨.len true (.t 7), some 8, none⟩,
  ⟨.bin .lss .plain (.t 6) (.t 8), some 9, none⟩])
 (.keep [0, 3, 4, 9] (.cond (.t 9)
 (.skip)
 (.exit 0))))
 (.seq (.block 1 (.seq (.reg false [] [⟨.mv (.t 3), some 12, none⟩,
  ⟨.mv (.t 0), some 13, none⟩,
  ⟨.mv (.t 4), some 14, none⟩,
  ⟨.sidx (.t 13) (.t 14), some 15, none⟩,
  ⟨.conv (.int .u32) (.t 15), some 16, none⟩,
  ⟨.bin .xor .plain (.t 12) (.t 16), some 17, none⟩,
  ⟨.mv (.t 17), some 3, none⟩])
 (.keep [0, 3, 4] (.seq (.reg false [] [⟨.mv (.c (.p (.i .i64 0))), some 5, none⟩])
 (.block 2 (.loop [0, 3, 4, 5] J2n))))))
 (.keep [0, 3, 4] J4P))
def J1u : Jj := .seq (.reg false [] [⟨.mv (.t 3), some 30, none⟩,
  ⟨.un .xor (.t 30), some 31, none⟩,
  ⟨.mv (.t 31), some 2, none⟩])
 (.ret)
def J9G : Jj := .seq (.reg false [] [⟨.mv (.c (.p (.i .u32 0))), some 2, none⟩])
 (.seq (.reg false [] [⟨.mv (.c (.p (.i .u32 4294967295))), some 3, none⟩])
 (.seq (.seq (.reg false [] [⟨.mv (.c (.p (.i .i64 0))), some 4, none⟩])
 (.block 0 (.loop [0, 3, 4] J1i)))
 (.keep [3] J1u)))
def J10 : AFn := ⟨1, 32, J9G, [.tmp 2], false⟩
def J0n : Jj := .seq (.reg false [] [⟨.bin .lss .plain (.t 7) (.c (.p (.i .i64 16))), some 8, none⟩])
 (.seq (.cond (.t 8)
 (.skip)
 (.exit 0))
 (.seq (.block 1 (.seq (.reg false [] [⟨.aidx true 16 2 (.t 6) (.t 7), some 9, none⟩,
  ⟨.newbox (Jk default), some 4, none⟩,
  ⟨.store 2 (.t 4) (.t 9), none, none⟩])
 (.keep [1, 4, 6, 7] (.seq (.reg false [] [⟨.faddr 1 (.t 4), some 10, none⟩,
  ⟨.load false 1 (.t 10), some 11, none⟩,
  ⟨.len true (.t 11), some 12, none⟩,
  ⟨.bin .gtr .plain (.t 12) (.c (.p (.i .i64 12))), some 13, none⟩,
  ⟨.mv (.t 13), some 14, none⟩,
  ⟨.faddr 0 (.t 4), some 15, some (14, false)⟩,
  ⟨.load false 1 (.t 15), some 16, some (14, false)⟩,
  ⟨.un .not (.t 16), some 17, some (14, false)⟩,
  ⟨.mv (.t 17), some 18, some (14, false)⟩,
  ⟨.faddr 1 (.t 4), some 19, some (18, true)⟩,
  ⟨.load false 1 (.t 19), some 20, some (18, true)⟩,
  ⟨.bin .neq .plain (.t 20) (.c (.p (.s []))), some 21, some (18, true)⟩,
  ⟨.pick (.t 18) (.t 21) (.c (.p (.b false))), some 22, some (14, false)⟩,
  ⟨.pick (.t 14) (.c (.p (.b true))) (.t 22), some 23, none⟩,
  ⟨.mv (.t 23), some 24, none⟩,
  ⟨.faddr 0 (.t 4), some 25, some (24, false)⟩,
  ⟨.load false 1 (.t 25), some 26, some (24, false)⟩,
  ⟨.mv (.t 26), some 27, some (24, false)⟩,
  ⟨.faddr 1 (.t 1), some 28, some (27, true)⟩,
  ⟨.load false 1 (.t 28), some 29, some (27, true)⟩,
  ⟨.bin .eql .plain (.t 29) (.c (.p (.i .i64 0))), some 30, some (27, true)⟩,
  ⟨.pick (.t 27) (.t 30) (.c (.p (.b false))), some 31, some (24, false)⟩,
  ⟨.pick (.t 24) (.c (.p (.b true))) (.t 31), some 32, none⟩])
 (.keep [1, 6, 7, 32] (.cond (.t 32)
 (.seq (.reg false [] [⟨.mv (.c (.p (.b false))), some 2, none⟩])
  (.ret))
 (.skip)))))))
 (.reg false [] [⟨.bin .add .plain (.t 7) (.c (.p (.i .i64 1))), some 33, none⟩,
  ⟨.mv (.t 33), some 7, none⟩])))
def J5g : Jj := .seq (.reg false [] [⟨.mv (.c (.p (.b true))), some 2, none⟩])
 (.ret)
def J9c : Jj := .seq (.reg false [] [⟨.box 34 (.t 0), some 1, none⟩,
  ⟨.mv (.c (.p (.b false))), some 2, none⟩])
 (.seq (.tidy [2] (.seq (.reg false [] [⟨.faddr 2 (.t 1), some 5, none⟩,
  ⟨.load true 32 (.t 5), some 6, none⟩,
  ⟨.mv (.c (.p (.i .i64 0))), some 7, none⟩])
 (.keep [1, 6, 7] (.block 0 (.loop [1, 6, 7] J0n)))))
 (.keep [] J5g))
def J2Y : AFn := ⟨1, 34, J9c, [.tmp 2], false⟩
def J6z : Jcz := ⟨1, 8, .reg false [] [⟨.mkarr 3 (.c (.p (.sl 3 []))), some 2, none⟩], [], .reg false [] [⟨.mv (.t 0), some 3, none⟩,
  ⟨.bin .eql .nils (.t 3) (.c (.p (.sl 3 []))), some 4, none⟩], (.t 4),
 .seq (.reg false [] [⟨.mkarr 3 (.c (.p (.sl 3 []))), some 2, none⟩])
 (.ret),
 .skip,
 .seq (.reg false [] [⟨.lits true 3 0 (J5 default) [], some 5, none⟩,
  ⟨.mv (.t 0), some 6, none⟩,
  ⟨.app 3 32 (J5 default) (.t 5) (.t 6), some 7, none⟩,
  ⟨.mv (.t 7), some 2, none⟩])
 (.ret), [.tmp 2], true⟩
def J22 : Jj := .seq (.reg false [] [⟨.box 34 (.t 0), some 1, none⟩,
  ⟨.mv (.c (.p (.b false))), some 2, none⟩])
 (.seq (.reg false [] [⟨.faddr 0 (.t 1), some 3, none⟩,
  ⟨.load false 1 (.t 3), some 4, none⟩,
  ⟨.bin .geq .plain (.t 4) (.c (.p (.i .i64 0))), some 5, none⟩,
  ⟨.mv (.t 5), some 6, none⟩,
  ⟨.faddr 0 (.t 1), some 7, some (6, true)⟩,
  ⟨.load false 1 (.t 7), some 8, some (6, true)⟩,
  ⟨.bin .lss .plain (.t 8) (.c (.p (.i .i64 64))), some 9, some (6, true)⟩,
  ⟨.pick (.t 6) (.t 9) (.c (.p (.b false))), some 10, none⟩,
  ⟨.mv (.t 10), some 11, none⟩,
  ⟨.faddr 1 (.t 1), some 12, some (11, true)⟩,
  ⟨.load false 1 (.t 12), some 13, some (11, true)⟩,
  ⟨.bin .geq .plain (.t 13) (.c (.p (.i .i64 0))), some 14, some (11, true)⟩,
  ⟨.pick (.t 11) (.t 14) (.c (.p (.b false))), some 15, none⟩,
  ⟨.mv (.t 15), some 16, none⟩,
  ⟨.faddr 1 (.t 1), some 17, some (16, true)⟩,
  ⟨.load false 1 (.t 17), some 18, some (16, true)⟩,
  ⟨.bin .leq .plain (.t 18) (.c (.p (.i .i64 1099511627776))), some 19, some (16, true)⟩,
  ⟨.pick (.t 16) (.t 19) (.c (.p (.b false))), some 20, none⟩,
  ⟨.mv (.t 20), some 2, none⟩])
 (.ret))
def J5A : AFn := ⟨1, 21, J22, [.tmp 2], false⟩
def J0y : Jj := .seq (.reg false [] [⟨.mv (.c (.p (.b false))), some 4, none⟩])
 (.seq (.reg false [] [⟨.mv (.t 0), some 5, none⟩,
  ⟨.len true (.t 5), some 6, none⟩,
  ⟨.mv (.t 1), some 7, none⟩,
  ⟨.len true (.t 7), some 8, none⟩,
  ⟨.bin .geq .plain (.t 6) (.t 8), some 9, none⟩,
  ⟨.mv (.t 9), some 10, none⟩,
  ⟨.mv (.t 0), some 11, some (10, true)⟩,
  ⟨.mv (.t 1), some 12, some (10, true)⟩,
  ⟨.len true (.t 12), some 13, some (10, true)⟩,
  ⟨.slice .str (.t 11) none (some (.t 13)) none, some 14, some (10, true)⟩,
  ⟨.mv (.t 1), some 15, some (10, true)⟩,
  ⟨.bin .eql .plain (.t 14) (.t 15), some 16, some (10, true)⟩,
  ⟨.pick (.t 10) (.t 16) (.c (.p (.b false))), some 17, none⟩,
  ⟨.mv (.t 17), some 4, none⟩])
 (.ret))
def J0B : AFn := ⟨2, 18, J0y, [.tmp 4], false⟩
def J4R : Jj := .seq (.seq (.reg false [] [⟨.mv (.t 9), some 32, none⟩,
  ⟨.mv (.t 2), some 33, none⟩,
  ⟨.bin .lss .plain (.t 32) (.t 33), some 34, none⟩])
 (.keep [0, 1, 2, 8, 9, 34] (.cond (.t 34)
 (.skip)
 (.exit 0))))
 (.seq (.block 1 (.reg false [] [⟨.mv (.t 8), some 37, none⟩,
  ⟨.mv (.t 0), some 38, none⟩,
  ⟨.mv (.t 1), some 39, none⟩,
  ⟨.mv (.t 9), some 40, none⟩,
  ⟨.bin .add .plain (.t 39) (.t 40), some 41, none⟩,
  ⟨.sidx (.t 38) (.t 41), some 42, none⟩,
  ⟨.conv (.int .u64) (.t 42), some 43, none⟩,
  ⟨.mv (.t 9), some 44, none⟩,
  ⟨.bin .mul .plain (.c (.p (.i .i64 8))) (.t 44), some 45, none⟩,
  ⟨.conv (.int .u64) (.t 45), some 46, none⟩,
  ⟨.bin .shl .plain (.t 43) (.t 46), some 47, none⟩,
  ⟨.bin .or .plain (.t 37) (.t 47), some 48, none⟩,
  ⟨.mv (.t 48), some 8, none⟩]))
 (.reg false [] [⟨.mv (.t 9), some 35, none⟩,
  ⟨.bin .add .plain (.t 35) (.c (.p (.i .i64 1))), some 36, none⟩,
  ⟨.mv (.t 36), some 9, none⟩]))
def J5E : Jj := .seq (.reg false [] [⟨.mv (.t 8), some 49, none⟩,
  ⟨.conv (.int .i64) (.t 49), some 50, none⟩,
  ⟨.mv (.t 50), some 6, none⟩,
  ⟨.mv (.c (.p (.i .i64 0))), some 7, none⟩])
 (.ret)
def J26 : Jj := .seq (.reg false [] [⟨.mv (.c (.p (.i .i64 0))), some 6, none⟩,
  ⟨.mv (.c (.p (.i .i64 0))), some 7, none⟩])
 (.seq (.seq (.reg false [] [⟨.mv (.t 2), some 10, none⟩,
  ⟨.bin .lss .plain (.t 10) (.c (.p (.i .i64 1))), some 11, none⟩,
  ⟨.mv (.t 11), some 12, none⟩,
  ⟨.mv (.t 2), some 13, some (12, false)⟩,
  ⟨.bin .gtr .plain (.t 13) (.c (.p (.i .i64 8))), some 14, some (12, false)⟩,
  ⟨.pick (.t 12) (.c (.p (.b true))) (.t 14), some 15, none⟩,
  ⟨.mv (.t 15), some 16, none⟩,
  ⟨.mv (.t 1), some 17, some (16, false)⟩,
  ⟨.bin .lss .plain (.t 17) (.c (.p (.i .i64 0))), some 18, some (16, false)⟩,
  ⟨.pick (.t 16) (.c (.p (.b true))) (.t 18), some 19, none⟩])
 (.keep [0, 1, 2, 19] (.cond (.t 19)
 (.seq (.reg false [] [⟨.mv (.c (.p (.i .i64 0))), some 6, none⟩,
   ⟨.mv (.c (.p (.i .i64 1))), some 7, none⟩])
  (.ret))
 (.skip))))
 (.seq (.seq (.reg false [] [⟨.mv (.t 1), some 20, none⟩,
  ⟨.mv (.t 0), some 21, none⟩,
  ⟨.len true (.t 21), some 22, none⟩,
  ⟨.bin .gtr .plain (.t 20) (.t 22), some 23, none⟩,
  ⟨.mv (.t 23), some 24, none⟩,
  ⟨.mv (.t 0), some 25, some (24, false)⟩,
  ⟨.len true (.t 25), some 26, some (24, false)⟩,
  ⟨.mv (.t 1), some 27, some (24, false)⟩,
  ⟨.bin .sub .plain (.t 26) (.t 27), some 28, some (24, false)⟩,
  ⟨.mv (.t 2), some 29, some (24, false)⟩,
  ⟨.bin .lss .plain (.t 28) (.t 29), some 30, some (24, false)⟩,
  ⟨.pick (.t 24) (.c (.p (.b true))) (.t 30), some 31, none⟩])
 (.keep [0, 1, 2, 31] (.cond (.t 31)
 (.seq (.reg false [] [⟨.mv (.c (.p (.i .i64 0))), some 6, none⟩,
   ⟨.mv (.c (.p (.i .i64 5))), some 7, none⟩])
  (.ret))
 (.skip))))
 (.seq (.reg false [] [⟨.mv (.c (.p (.i .u64 0))), some 8, none⟩])
 (.seq (.seq (.reg false [] [⟨.mv (.c (.p (.i .i64 0))), some 9, none⟩])
 (.block 0 (.loop [0, 1, 2, 8, 9] J4R)))
 (.keep [8] J5E)))))
def J3H : AFn := ⟨3, 51, J26, [.tmp 6, .tmp 7], false⟩
def J9H : Jj := .seq (.reg false [] [⟨.newbox (J4 default), some 2, none⟩])
 (.seq (.reg false [] [⟨.mv (.t 0), some 3, none⟩,
  ⟨.build (J4 default) [(0, 1, (.t 3))], some 4, none⟩,
  ⟨.store 34 (.t 2) (.t 4), none, none⟩])
 (.ret))
def J8F : AFn := ⟨1, 5, J9H, [.cell 2 true 34], false⟩
def J7T : Jj := .seq (.reg false [] [⟨.mv (.c (.p (.b false))), some 2, none⟩])
 (.seq (.reg false [] [⟨.mv (.t 0), some 3, none⟩,
  ⟨.bin .geq .plain (.t 3) (.c (.p (.i .i64 0))), some 4, none⟩,
  ⟨.mv (.t 4), some 5, none⟩,
  ⟨.mv (.t 0), some 6, some (5, true)⟩,
  ⟨.bin .lss .plain (.t 6) (.c (.p (.i .i64 64))), some 7, some (5, true)⟩,
  ⟨.pick (.t 5) (.t 7) (.c (.p (.b false))), some 8, none⟩,
  ⟨.mv (.t 8), some 2, none⟩])
 (.ret))
def J7V : AFn := ⟨1, 9, J7T, [.tmp 2], false⟩
def JaK : Jj := .seq (.reg false [] [⟨.newbox (J4 default), some 2, none⟩])
 (.seq (.reg false [] [⟨.mv (.t 0), some 3, none⟩,
  ⟨.build (J4 default) [(0, 1, (.t 3))], some 4, none⟩,
  ⟨.store 34 (.t 2) (.t 4), none, none⟩])
 (.ret))
def J9t : AFn := ⟨1, 5, JaK, [.cell 2 true 34], false⟩
def J0J : Jj := .seq (.reg false [] [⟨.bin .lss .plain (.t 9) (.c (.p (.i .i64 4))), some 10, none⟩])
 (.seq (.cond (.t 10)
 (.skip)
 (.exit 2))
 (.seq (.block 3 (.seq (.reg false [] [⟨.mv (.t 3), some 11, none⟩,
  ⟨.bin .and .plain (.t 11) (.c (.p (.i .u32 1))), some 12, none⟩,
  ⟨.bin .eql .plain (.t 12) (.c (.p (.i .u32 1))), some 13, none⟩])
 (.keep [0, 1, 2, 3, 4, 9, 13] (.cond (.t 13)
 (.reg false [] [⟨.mv (.t 3), some 14, none⟩,
   ⟨.bin .shr .plain (.t 14) (.c (.p (.i .u64 1))), some 15, none⟩,
   ⟨.bin .xor .plain (.t 15) (.c (.p (.i .u32 2197175160))), some 16, none⟩,
   ⟨.mv (.t 16), some 3, none⟩])
 (.reg false [] [⟨.mv (.t 3), some 17, none⟩,
   ⟨.bin .shr .plain (.t 17) (.c (.p (.i .u64 1))), some 18, none⟩,
   ⟨.mv (.t 18), some 3, none⟩])))))
 (.reg false [] [⟨.bin .add .plain (.t 9) (.c (.p (.i .i64 1))), some 19, none⟩,
  ⟨.mv (.t 19), some 9, none⟩])))
def J2l : Jj := .reg false [] [⟨.mv (.t 2), some 20, none⟩,
  ⟨.mv (.t 3), some 21, none⟩,
  ⟨.aaddr 16 1 (.t 1) (.t 20), some 22, none⟩,
  ⟨.store 1 (.t 22) (.t 21), none, none⟩]
def J1D : Jj := .reg false [] [⟨.bin .add .plain (.t 4) (.c (.p (.i .i64 1))), some 23, none⟩,
  ⟨.mv (.t 23), some 4, none⟩]
def JW : Jj := .seq (.reg false [] [⟨.bin .lss .plain (.t 4) (.c (.p (.i .i64 16))), some 5, none⟩])
 (.seq (.cond (.t 5)
 (.skip)
 (.exit 0))
 (.seq (.block 1 (.seq (.reg false [] [⟨.mv (.t 4), some 6, none⟩,
  ⟨.mv (.t 6), some 2, none⟩])
 (.seq (.reg false [] [⟨.mv (.t 2), some 7, none⟩,
  ⟨.conv (.int .u32) (.t 7), some 8, none⟩,
  ⟨.mv (.t 8), some 3, none⟩])
 (.keep [0, 1, 2, 3, 4] (.seq (.seq (.reg false [] [⟨.mv (.c (.p (.i .i64 0))), some 9, none⟩])
 (.block 2 (.loop [0, 1, 2, 3, 4, 9] J0J)))
 (.keep [0, 1, 2, 3, 4] J2l))))))
 (.keep [0, 1, 4] J1D)))
def J01 : Jj := .seq (.reg false [] [⟨.load true 16 (.t 1), some 24, none⟩,
  ⟨.store 16 (.t 0) (.t 24), none, none⟩])
 (.ret)
def J5q : Jj := .seq (.reg false [] [⟨.newbox (JV (r_i .u32) (Vector.replicate 16 (0 : Int))), some 0, none⟩])
 (.seq (.reg false [] [⟨.newbox (JV (r_i .u32) (Vector.replicate 16 (0 : Int))), some 1, none⟩])
 (.seq (.seq (.reg false [] [⟨.mv (.c (.p (.i .i64 0))), some 4, none⟩])
 (.block 0 (.loop [0, 1, 4] JW)))
 (.keep [0, 1] J01)))
def JS : AFn := ⟨0, 25, J5q, [.cell 0 true 16], false⟩
def Jaa : Jj := .seq (.reg false [] [⟨.box 3 (.t 0), some 2, none⟩,
  ⟨.mv (.c (.p (.i .i64 0))), some 4, none⟩])
 (.seq (.reg false [] [⟨.faddr 0 (.t 2), some 5, none⟩,
  ⟨.load false 1 (.t 5), some 6, none⟩,
  ⟨.mv (.t 1), some 7, none⟩,
  ⟨.bin .sub .plain (.t 6) (.t 7), some 8, none⟩,
  ⟨.mv (.t 8), some 4, none⟩])
 (.ret))
def Jd7 : AFn := ⟨2, 9, Jaa, [.tmp 4], false⟩
def J2C : Jj := .seq (.reg false [] [⟨.box 2 (.t 0), some 1, none⟩,
  ⟨.mv (.c (.p (.b false))), some 2, none⟩])
 (.seq (.reg false [] [⟨.faddr 1 (.t 1), some 3, none⟩,
  ⟨.load false 1 (.t 3), some 4, none⟩,
  ⟨.len true (.t 4), some 5, none⟩,
  ⟨.bin .leq .plain (.t 5) (.c (.p (.i .i64 12))), some 6, none⟩,
  ⟨.mv (.t 6), some 7, none⟩,
  ⟨.faddr 0 (.t 1), some 8, some (7, true)⟩,
  ⟨.load false 1 (.t 8), some 9, some (7, true)⟩,
  ⟨.mv (.t 9), some 10, some (7, true)⟩,
  ⟨.faddr 1 (.t 1), some 11, some (10, false)⟩,
  ⟨.load false 1 (.t 11), some 12, some (10, false)⟩,
  ⟨.bin .eql .plain (.t 12) (.c (.p (.s []))), some 13, some (10, false)⟩,
  ⟨.pick (.t 10) (.c (.p (.b true))) (.t 13), some 14, some (7, true)⟩,
  ⟨.pick (.t 7) (.t 14) (.c (.p (.b false))), some 15, none⟩,
  ⟨.mv (.t 15), some 2, none⟩])
 (.ret))
def J4x : AFn := ⟨1, 16, J2C, [.tmp 2], false⟩
def J8o : Jj := .seq (.reg false [] [⟨.mv (.c (.p (.i .i64 0))), some 6, none⟩])
 (.seq (.reg false [] [⟨.mv (.t 0), some 10, none⟩,
  ⟨.mv (.t 1), some 11, none⟩,
  ⟨.mv (.t 2), some 12, none⟩,
  ⟨.call J31 [(.t 10), (.t 11), (.t 12)] 0, some 13, none⟩,
  ⟨.mv (.t 13), some 9, none⟩,
  ⟨.extr (.t 9) 0, some 14, none⟩,
  ⟨.extr (.t 9) 1, some 15, none⟩,
  ⟨.mv (.t 14), some 7, none⟩,
  ⟨.mv (.t 15), some 8, none⟩])
 (.keep [7] (.seq (.reg false [] [⟨.mv (.t 7), some 16, none⟩,
  ⟨.mv (.t 16), some 6, none⟩])
 (.ret))))
def J6Y : AFn := ⟨3, 17, J8o, [.tmp 6], false⟩
def J1Q : Jj := .seq (.reg false [] [⟨.bin .lss .plain (.t 13) (.c (.p (.i .i64 16))), some 14, none⟩])
 (.seq (.cond (.t 14)
 (.skip)
 (.exit 0))
 (.seq (.block 1 (.seq (.reg false [] [⟨.mv (.t 13), some 15, none⟩,
  ⟨.mv (.t 15), some 5, none⟩])
 (.seq (.reg false [] [⟨.mv (.t 5), some 16, none⟩,
  ⟨.bin .mul .plain (.t 16) (.c (.p (.i .i64 13))), some 17, none⟩,
  ⟨.bin .add .plain (.c (.p (.i .i64 12))) (.t 17), some 18, none⟩,
  ⟨.mv (.t 18), some 6, none⟩])
 (.keep [0, 2, 4, 5, 6, 13] (.seq (.reg false [] [⟨.mv (.t 0), some 19, none⟩,
  ⟨.mv (.t 6), some 20, none⟩,
  ⟨.call J3M [(.t 19), (.t 20), (.c (.p (.i .i64 1)))] 0, some 21, none⟩,
  ⟨.mv (.t 21), some 7, none⟩])
 (.keep [0, 2, 4, 5, 6, 7, 13] (.block 2 (.seq (.reg false [] [⟨.mv (.t 7), some 35, none⟩,
  ⟨.bin .eql .plain (.t 35) (.c (.p (.i .i64 255))), some 36, none⟩,
  ⟨.mv (.t 36), some 34, none⟩])
 (.keep [0, 2, 4, 5, 6, 7, 13, 34] (.cond (.t 34)
 (.skip)
 (.seq (.reg false [] [⟨.mv (.t 7), some 38, none⟩,
   ⟨.bin .gtr .plain (.t 38) (.c (.p (.i .i64 12))), some 39, none⟩,
   ⟨.mv (.t 39), some 37, none⟩])
  (.keep [0, 2, 4, 5, 6, 7, 13, 37] (.cond (.t 37)
  (.seq (.reg false [] [⟨.build (J4 default) [], some 40, none⟩,
    ⟨.store 34 (.t 2) (.t 40), none, none⟩,
    ⟨.mv (.c (.p (.b false))), some 3, none⟩])
   (.ret))
  (.reg false [] [⟨.mv (.t 5), some 22, none⟩,
    ⟨.mv (.t 0), some 23, none⟩,
    ⟨.mv (.t 6), some 24, none⟩,
    ⟨.bin .add .plain (.t 24) (.c (.p (.i .i64 1))), some 25, none⟩,
    ⟨.mv (.t 6), some 26, none⟩,
    ⟨.bin .add .plain (.t 26) (.c (.p (.i .i64 1))), some 27, none⟩,
    ⟨.mv (.t 7), some 28, none⟩,
    ⟨.bin .add .plain (.t 27) (.t 28), some 29, none⟩,
    ⟨.slice .str (.t 23) (some (.t 25)) (some (.t 29)) none, some 30, none⟩,
    ⟨.build (Jk default) [(0, 1, (.c (.p (.b true)))), (1, 1, (.t 30))], some 31, none⟩,
    ⟨.faddr 2 (.t 4), some 32, none⟩,
    ⟨.aaddr 16 2 (.t 32) (.t 22), some 33, none⟩,
    ⟨.store 2 (.t 33) (.t 31), none, none⟩]))))))))))))))
 (.reg false [] [⟨.bin .add .plain (.t 13) (.c (.p (.i .i64 1))), some 41, none⟩,
  ⟨.mv (.t 41), some 13, none⟩])))
def J5P : Jj := .seq (.reg false [] [⟨.load true 34 (.t 4), some 42, none⟩,
  ⟨.store 34 (.t 2) (.t 42), none, none⟩,
  ⟨.mv (.c (.p (.b true))), some 3, none⟩])
 (.ret)
def J9J : Jj := .seq (.reg false [] [⟨.newbox (J4 default), some 2, none⟩,
  ⟨.mv (.c (.p (.b false))), some 3, none⟩])
 (.seq (.reg false [] [⟨.mv (.t 0), some 8, none⟩,
  ⟨.call J3M [(.t 8), (.c (.p (.i .i64 8))), (.c (.p (.i .i64 4)))] 0, some 9, none⟩,
  ⟨.mv (.t 0), some 10, none⟩,
  ⟨.call J3M [(.t 10), (.c (.p (.i .i64 0))), (.c (.p (.i .i64 8)))] 0, some 11, none⟩,
  ⟨.build (J4 default) [(0, 1, (.t 9)), (1, 1, (.t 11))], some 12, none⟩,
  ⟨.newbox (J4 default), some 4, none⟩,
  ⟨.store 34 (.t 4) (.t 12), none, none⟩])
 (.keep [0, 2, 4] (.seq (.seq (.reg false [] [⟨.mv (.c (.p (.i .i64 0))), some 13, none⟩])
 (.block 0 (.loop [0, 2, 4, 13] J1Q)))
 (.keep [2, 4] J5P))))
def J3F : AFn := ⟨1, 43, J9J, [.cell 2 true 34, .tmp 3], false⟩
def J0P : Jj := .seq (.reg false [] [⟨.mv (.c (.p (.s []))), some 4, none⟩])
 (.seq (.seq (.reg false [] [⟨.mv (.t 1), some 6, none⟩,
  ⟨.len true (.t 6), some 7, none⟩,
  ⟨.bin .eql .plain (.t 7) (.c (.p (.i .i64 0))), some 8, none⟩])
 (.keep [0, 1, 8] (.cond (.t 8)
 (.seq (.reg false [] [⟨.mv (.t 0), some 9, none⟩,
   ⟨.call Jb [(.t 9), (.c (.p (.i .i64 256)))] 0, some 10, none⟩,
   ⟨.conv (.int .u8) (.t 10), some 11, none⟩,
   ⟨.lits false 1 1 [(.i .u8 0)] [(0, (.t 11))], some 12, none⟩,
   ⟨.conv .toStr (.t 12), some 13, none⟩,
   ⟨.mv (.t 13), some 4, none⟩])
  (.ret))
 (.skip))))
 (.seq (.reg false [] [⟨.mv (.t 0), some 14, none⟩,
  ⟨.mv (.t 1), some 15, none⟩,
  ⟨.len true (.t 15), some 16, none⟩,
  ⟨.call Jb [(.t 14), (.t 16)] 0, some 17, none⟩,
  ⟨.mv (.t 17), some 5, none⟩])
 (.keep [0, 1, 5] (.seq (.seq (.reg false [] [⟨.mv (.t 0), some 18, none⟩,
  ⟨.call Jb [(.t 18), (.c (.p (.i .i64 4)))] 0, some 19, none⟩])
 (.block 0 (.seq (.reg false [] [⟨.bin .eql .plain (.t 19) (.c (.p (.i .i64 0))), some 21, none⟩,
  ⟨.mv (.t 21), some 20, none⟩])
 (.cond (.t 20)
 (.seq (.reg true [] [⟨.mv (.t 1), some 22, none⟩,
   ⟨.mv (.t 5), some 23, none⟩,
   ⟨.slice .str (.t 22) none (some (.t 23)) none, some 24, none⟩,
   ⟨.mv (.t 1), some 25, none⟩,
   ⟨.mv (.t 5), some 26, none⟩,
   ⟨.bin .add .plain (.t 26) (.c (.p (.i .i64 1))), some 27, none⟩,
   ⟨.slice .str (.t 25) (some (.t 27)) none none, some 28, none⟩,
   ⟨.bin .add .plain (.t 24) (.t 28), some 29, none⟩,
   ⟨.mv (.t 29), some 4, none⟩])
  (.ret))
 (.seq (.reg false [] [⟨.bin .eql .plain (.t 19) (.c (.p (.i .i64 1))), some 31, none⟩,
   ⟨.mv (.t 31), some 30, none⟩])
  (.cond (.t 30)
  (.seq (.reg false [] [⟨.mv (.t 1), some 32, none⟩,
    ⟨.mv (.t 0), some 33, none⟩,
    ⟨.call Jb [(.t 33), (.c (.p (.i .i64 256)))] 0, some 34, none⟩,
    ⟨.conv (.int .u8) (.t 34), some 35, none⟩,
    ⟨.lits false 1 1 [(.i .u8 0)] [(0, (.t 35))], some 36, none⟩,
    ⟨.conv .toStr (.t 36), some 37, none⟩,
    ⟨.bin .add .plain (.t 32) (.t 37), some 38, none⟩,
    ⟨.mv (.t 38), some 4, none⟩])
   (.ret))
  (.skip)))))))
 (.seq (.reg true [] [⟨.mv (.t 1), some 39, none⟩,
  ⟨.mv (.t 5), some 40, none⟩,
  ⟨.slice .str (.t 39) none (some (.t 40)) none, some 41, none⟩,
  ⟨.mv (.t 1), some 42, none⟩,
  ⟨.mv (.t 5), some 43, none⟩,
  ⟨.sidx (.t 42) (.t 43), some 44, none⟩,
  ⟨.mv (.t 0), some 45, none⟩,
  ⟨.call Jb [(.t 45), (.c (.p (.i .i64 255)))] 0, some 46, none⟩,
  ⟨.bin .add .plain (.c (.p (.i .i64 1))) (.t 46), some 47, none⟩,
  ⟨.conv (.int .u8) (.t 47), some 48, none⟩,
  ⟨.bin .xor .plain (.t 44) (.t 48), some 49, none⟩,
  ⟨.lits false 1 1 [(.i .u8 0)] [(0, (.t 49))], some 50, none⟩,
  ⟨.conv .toStr (.t 50), some 51, none⟩,
  ⟨.bin .add .plain (.t 41) (.t 51), some 52, none⟩,
  ⟨.mv (.t 1), some 53, none⟩,
  ⟨.mv (.t 5), some 54, none⟩,
  ⟨.bin .add .plain (.t 54) (.c (.p (.i .i64 1))), some 55, none⟩,
  ⟨.slice .str (.t 53) (some (.t 55)) none none, some 56, none⟩,
  ⟨.bin .add .plain (.t 52) (.t 56), some 57, none⟩,
  ⟨.mv (.t 57), some 4, none⟩])
 (.ret))))))
def J3r : AFn := ⟨2, 58, J0P, [.tmp 4], false⟩
def J1N : Jj := .seq (.seq (.reg false [] [⟨.mv (.t 6), some 23, none⟩,
  ⟨.bin .gtr .plain (.t 23) (.c (.p (.i .i64 0))), some 24, none⟩])
 (.cond (.t 24)
 (.skip)
 (.exit 0)))
 (.seq (.block 1 (.reg false [] [⟨.mv (.t 0), some 27, none⟩,
  ⟨.call Jb [(.t 27), (.c (.p (.i .i64 16)))] 0, some 28, none⟩,
  ⟨.mv (.t 0), some 29, none⟩,
  ⟨.call J4w [(.t 29)] 0, some 30, none⟩,
  ⟨.faddr 2 (.t 5), some 31, none⟩,
  ⟨.aaddr 16 2 (.t 31) (.t 28), some 32, none⟩,
  ⟨.store 2 (.t 32) (.t 30), none, none⟩]))
 (.reg false [] [⟨.mv (.t 6), some 25, none⟩,
  ⟨.bin .sub .plain (.t 25) (.c (.p (.i .i64 1))), some 26, none⟩,
  ⟨.mv (.t 26), some 6, none⟩]))
def J2I : Jj := .seq (.reg false [] [⟨.load true 34 (.t 5), some 33, none⟩,
  ⟨.store 34 (.t 4) (.t 33), none, none⟩])
 (.ret)
def J6D : Jj := .seq (.seq (.reg false [] [⟨.faddr 1 (.t 5), some 18, none⟩,
  ⟨.load false 1 (.t 18), some 19, none⟩,
  ⟨.bin .gtr .plain (.t 19) (.c (.p (.i .i64 0))), some 20, none⟩])
 (.keep [0, 4, 5, 20] (.cond (.t 20)
 (.seq (.reg false [] [⟨.mv (.t 0), some 21, none⟩,
   ⟨.call Jb [(.t 21), (.c (.p (.i .i64 6)))] 0, some 22, none⟩,
   ⟨.mv (.t 22), some 6, none⟩])
  (.keep [0, 4, 5, 6] (.block 0 (.loop [0, 4, 5, 6] J1N))))
 (.skip))))
 (.keep [4, 5] J2I)
def J3e : Jj := .seq (.reg false [] [⟨.newbox (J4 default), some 4, none⟩])
 (.seq (.reg false [] [⟨.mv (.t 1), some 7, none⟩,
  ⟨.mv (.t 0), some 8, none⟩,
  ⟨.call Jb [(.t 8), (.c (.p (.i .i64 50)))] 0, some 9, none⟩,
  ⟨.build (J4 default) [(0, 1, (.t 7)), (1, 1, (.t 9))], some 10, none⟩,
  ⟨.newbox (J4 default), some 5, none⟩,
  ⟨.store 34 (.t 5) (.t 10), none, none⟩])
 (.keep [0, 4, 5] (.seq (.seq (.reg false [] [⟨.mv (.t 0), some 11, none⟩,
  ⟨.call Jb [(.t 11), (.c (.p (.i .i64 10)))] 0, some 12, none⟩,
  ⟨.bin .eql .plain (.t 12) (.c (.p (.i .i64 9))), some 13, none⟩])
 (.keep [0, 4, 5, 13] (.cond (.t 13)
 (.reg false [] [⟨.mv (.t 0), some 14, none⟩,
   ⟨.call Jb [(.t 14), (.c (.p (.i .i64 2)))] 0, some 15, none⟩,
   ⟨.bin .sub .plain (.c (.p (.i .i64 1099511627776))) (.t 15), some 16, none⟩,
   ⟨.faddr 1 (.t 5), some 17, none⟩,
   ⟨.store 1 (.t 17) (.t 16), none, none⟩])
 (.skip))))
 (.keep [0, 4, 5] J6D))))
def J0C : AFn := ⟨2, 34, J3e, [.cell 4 true 34], false⟩
def J8p : Jj := .seq (.reg false [] [⟨.mv (.c (.p (.s []))), some 0, none⟩])
 (.seq (.reg false [] [⟨.call J3L [(.c (.p (.i .i64 256)))] 0, some 1, none⟩,
  ⟨.mv (.t 1), some 0, none⟩])
 (.ret))
def J6X : AFn := ⟨0, 2, J8p, [.tmp 0], false⟩
def J96 : Jj := .seq (.reg false [] [⟨.mv (.c (.p (.s []))), some 0, none⟩])
 (.seq (.reg false [] [⟨.call J2k [(.c (.p (.s [0]))), (.c (.p (.i .i64 256)))] 0, some 1, none⟩,
  ⟨.mv (.t 1), some 0, none⟩])
 (.ret))
def J7z : AFn := ⟨0, 2, J96, [.tmp 0], false⟩
def J71 : Jj := .seq (.reg false [] [⟨.mv (.c (.p (.s []))), some 2, none⟩])
 (.seq (.seq (.reg false [] [⟨.mv (.t 0), some 4, none⟩,
  ⟨.len true (.t 4), some 5, none⟩,
  ⟨.bin .gtr .plain (.t 5) (.c (.p (.i .i64 8392))), some 6, none⟩])
 (.keep [0, 6] (.cond (.t 6)
 (.seq (.reg false [] [⟨.mv (.c (.p (.s []))), some 2, none⟩])
  (.ret))
 (.skip))))
 (.seq (.reg false [] [⟨.mv (.t 0), some 7, none⟩,
  ⟨.len true (.t 7), some 8, none⟩,
  ⟨.call J14 [(.c (.p (.s []))), (.t 8), (.c (.p (.i .i64 4)))] 0, some 9, none⟩,
  ⟨.mv (.t 0), some 10, none⟩,
  ⟨.bin .add .plain (.t 9) (.t 10), some 11, none⟩,
  ⟨.mv (.t 11), some 3, none⟩])
 (.keep [3] (.seq (.reg false [] [⟨.mv (.t 3), some 12, none⟩,
  ⟨.mv (.t 3), some 13, none⟩,
  ⟨.call J5p [(.t 13)] 0, some 14, none⟩,
  ⟨.conv (.int .i64) (.t 14), some 15, none⟩,
  ⟨.call J14 [(.t 12), (.t 15), (.c (.p (.i .i64 4)))] 0, some 16, none⟩,
  ⟨.mv (.t 16), some 2, none⟩])
 (.ret)))))
def J6N : AFn := ⟨1, 17, J71, [.tmp 2], false⟩
def J4X : Jj := .seq (.reg false [] [⟨.mv (.c (.p (.b false))), some 4, none⟩])
 (.seq (.reg false [] [⟨.mv (.t 0), some 5, none⟩,
  ⟨.mv (.t 1), some 6, none⟩,
  ⟨.call J0w [(.t 5), (.t 6)] 0, some 7, none⟩,
  ⟨.mv (.t 7), some 4, none⟩])
 (.ret))
def J3w : AFn := ⟨2, 8, J4X, [.tmp 4], false⟩
def J0c : Jj := .seq (.reg false [] [⟨.mv (.c (.p (.s []))), some 4, none⟩,
  ⟨.mv (.c (.p (.i .i64 0))), some 5, none⟩,
  ⟨.mv (.c (.p (.i .i64 0))), some 6, none⟩])
 (.keep [0, 1] (.seq (.seq (.reg false [] [⟨.mv (.t 1), some 11, none⟩,
  ⟨.bin .lss .plain (.t 11) (.c (.p (.i .i64 0))), some 12, none⟩,
  ⟨.mv (.t 12), some 13, none⟩,
  ⟨.mv (.t 1), some 14, some (13, false)⟩,
  ⟨.mv (.t 0), some 15, some (13, false)⟩,
  ⟨.len true (.t 15), some 16, some (13, false)⟩,
  ⟨.bin .gtr .plain (.t 14) (.t 16), some 17, some (13, false)⟩,
  ⟨.pick (.t 13) (.c (.p (.b true))) (.t 17), some 18, none⟩])
 (.keep [0, 1, 18] (.cond (.t 18)
 (.seq (.reg false [] [⟨.mv (.c (.p (.s []))), some 4, none⟩,
   ⟨.mv (.c (.p (.i .i64 0))), some 5, none⟩,
   ⟨.mv (.c (.p (.i .i64 1))), some 6, none⟩])
  (.ret))
 (.skip))))
 (.seq (.reg false [] [⟨.mv (.t 0), some 20, none⟩,
  ⟨.mv (.t 1), some 21, none⟩,
  ⟨.call J3D [(.t 20), (.t 21), (.c (.p (.i .i64 4)))] 0, some 22, none⟩,
  ⟨.mv (.t 22), some 19, none⟩,
  ⟨.extr (.t 19) 0, some 23, none⟩,
  ⟨.extr (.t 19) 1, some 24, none⟩,
  ⟨.mv (.t 23), some 7, none⟩,
  ⟨.mv (.t 24), some 8, none⟩])
 (.keep [0, 1, 7, 8] (.seq (.block 0 (.seq (.reg false [] [⟨.mv (.t 8), some 26, none⟩,
  ⟨.bin .neq .plain (.t 26) (.c (.p (.i .i64 0))), some 27, none⟩,
  ⟨.mv (.t 27), some 25, none⟩])
 (.keep [0, 1, 7, 25] (.cond (.t 25)
 (.seq (.reg false [] [⟨.mv (.c (.p (.s []))), some 4, none⟩,
   ⟨.mv (.c (.p (.i .i64 0))), some 5, none⟩,
   ⟨.mv (.c (.p (.i .i64 5))), some 6, none⟩])
  (.ret))
 (.seq (.reg false [] [⟨.mv (.t 7), some 29, none⟩,
   ⟨.bin .gtr .plain (.t 29) (.c (.p (.i .i64 8392))), some 30, none⟩,
   ⟨.mv (.t 30), some 28, none⟩])
  (.keep [0, 1, 7, 28] (.cond (.t 28)
  (.seq (.reg false [] [⟨.mv (.c (.p (.s []))), some 4, none⟩,
    ⟨.mv (.c (.p (.i .i64 0))), some 5, none⟩,
    ⟨.mv (.c (.p (.i .i64 2))), some 6, none⟩])
   (.ret))
  (.seq (.reg false [] [⟨.mv (.t 0), some 32, none⟩,
    ⟨.len true (.t 32), some 33, none⟩,
    ⟨.mv (.t 1), some 34, none⟩,
    ⟨.bin .sub .plain (.t 33) (.t 34), some 35, none⟩,
    ⟨.mv (.t 7), some 36, none⟩,
    ⟨.bin .add .plain (.t 36) (.c (.p (.i .i64 8))), some 37, none⟩,
    ⟨.bin .lss .plain (.t 35) (.t 37), some 38, none⟩,
    ⟨.mv (.t 38), some 31, none⟩])
   (.keep [0, 1, 7, 31] (.cond (.t 31)
   (.seq (.reg false [] [⟨.mv (.c (.p (.s []))), some 4, none⟩,
     ⟨.mv (.c (.p (.i .i64 0))), some 5, none⟩,
     ⟨.mv (.c (.p (.i .i64 5))), some 6, none⟩])
    (.ret))
   (.skip)))))))))))
 (.seq (.reg false [] [⟨.mv (.t 0), some 40, none⟩,
  ⟨.mv (.t 1), some 41, none⟩,
  ⟨.bin .add .plain (.t 41) (.c (.p (.i .i64 4))), some 42, none⟩,
  ⟨.mv (.t 7), some 43, none⟩,
  ⟨.bin .add .plain (.t 42) (.t 43), some 44, none⟩,
  ⟨.call J3D [(.t 40), (.t 44), (.c (.p (.i .i64 4)))] 0, some 45, none⟩,
  ⟨.mv (.t 45), some 39, none⟩,
  ⟨.extr (.t 39) 0, some 46, none⟩,
  ⟨.extr (.t 39) 1, some 47, none⟩,
  ⟨.mv (.t 46), some 9, none⟩,
  ⟨.mv (.t 47), some 10, none⟩])
 (.keep [0, 1, 7, 9] (.seq (.seq (.reg false [] [⟨.mv (.t 9), some 48, none⟩,
  ⟨.conv (.int .u32) (.t 48), some 49, none⟩,
  ⟨.mv (.t 0), some 50, none⟩,
  ⟨.mv (.t 1), some 51, none⟩,
  ⟨.mv (.t 1), some 52, none⟩,
  ⟨.bin .add .plain (.t 52) (.c (.p (.i .i64 4))), some 53, none⟩,
  ⟨.mv (.t 7), some 54, none⟩,
  ⟨.bin .add .plain (.t 53) (.t 54), some 55, none⟩,
  ⟨.slice .str (.t 50) (some (.t 51)) (some (.t 55)) none, some 56, none⟩,
  ⟨.call J5p [(.t 56)] 0, some 57, none⟩,
  ⟨.bin .neq .plain (.t 49) (.t 57), some 58, none⟩])
 (.keep [0, 1, 7, 58] (.cond (.t 58)
 (.seq (.reg false [] [⟨.mv (.c (.p (.s []))), some 4, none⟩,
   ⟨.mv (.c (.p (.i .i64 0))), some 5, none⟩,
   ⟨.mv (.c (.p (.i .i64 3))), some 6, none⟩])
  (.ret))
 (.skip))))
 (.seq (.reg false [] [⟨.mv (.t 0), some 59, none⟩,
  ⟨.mv (.t 1), some 60, none⟩,
  ⟨.bin .add .plain (.t 60) (.c (.p (.i .i64 4))), some 61, none⟩,
  ⟨.mv (.t 1), some 62, none⟩,
  ⟨.bin .add .plain (.t 62) (.c (.p (.i .i64 4))), some 63, none⟩,
  ⟨.mv (.t 7), some 64, none⟩,
  ⟨.bin .add .plain (.t 63) (.t 64), some 65, none⟩,
  ⟨.slice .str (.t 59) (some (.t 61)) (some (.t 65)) none, some 66, none⟩,
  ⟨.mv (.t 1), some 67, none⟩,
  ⟨.bin .add .plain (.t 67) (.c (.p (.i .i64 8))), some 68, none⟩,
  ⟨.mv (.t 7), some 69, none⟩,
  ⟨.bin .add .plain (.t 68) (.t 69), some 70, none⟩,
  ⟨.mv (.t 66), some 4, none⟩,
  ⟨.mv (.t 70), some 5, none⟩,
  ⟨.mv (.c (.p (.i .i64 0))), some 6, none⟩])
 (.ret))))))))))
def J5D : AFn := ⟨2, 71, J0c, [.tmp 4, .tmp 5, .tmp 6], false⟩
def J7H : Jj := .seq (.reg false [] [⟨.mv (.c (.p (.i .i64 0))), some 6, none⟩])
 (.seq (.reg false [] [⟨.mv (.t 0), some 10, none⟩,
  ⟨.mv (.t 1), some 11, none⟩,
  ⟨.mv (.t 2), some 12, none⟩,
  ⟨.call J3D [(.t 10), (.t 11), (.t 12)] 0, some 13, none⟩,
  ⟨.mv (.t 13), some 9, none⟩,
  ⟨.extr (.t 9) 0, some 14, none⟩,
  ⟨.extr (.t 9) 1, some 15, none⟩,
  ⟨.mv (.t 14), some 7, none⟩,
  ⟨.mv (.t 15), some 8, none⟩])
 (.keep [7] (.seq (.reg false [] [⟨.mv (.t 7), some 16, none⟩,
  ⟨.mv (.t 16), some 6, none⟩])
 (.ret))))
def J6g : AFn := ⟨3, 17, J7H, [.tmp 6], false⟩
def J3N : Jj := .seq (.reg false [] [⟨.box 34 (.t 0), some 1, none⟩,
  ⟨.mv (.c (.p (.b false))), some 2, none⟩])
 (.seq (.reg false [] [⟨.faddr 0 (.t 1), some 3, none⟩,
  ⟨.load false 1 (.t 3), some 4, none⟩,
  ⟨.call J6q [(.t 4)] 0, some 5, none⟩,
  ⟨.mv (.t 5), some 6, none⟩,
  ⟨.faddr 1 (.t 1), some 7, some (6, true)⟩,
  ⟨.load false 1 (.t 7), some 8, some (6, true)⟩,
  ⟨.bin .geq .plain (.t 8) (.c (.p (.i .i64 0))), some 9, some (6, true)⟩,
  ⟨.pick (.t 6) (.t 9) (.c (.p (.b false))), some 10, none⟩,
  ⟨.mv (.t 10), some 11, none⟩,
  ⟨.faddr 1 (.t 1), some 12, some (11, true)⟩,
  ⟨.load false 1 (.t 12), some 13, some (11, true)⟩,
  ⟨.bin .leq .plain (.t 13) (.c (.p (.i .i64 1099511627776))), some 14, some (11, true)⟩,
  ⟨.pick (.t 11) (.t 14) (.c (.p (.b false))), some 15, none⟩,
  ⟨.mv (.t 15), some 2, none⟩])
 (.ret))
def J6F : AFn := ⟨1, 16, J3N, [.tmp 2], false⟩
def J7C : Jj := .reg true [(6, 8), (6, 11), (8, 14)] [⟨.mv (.t 0), some 10, none⟩,
  ⟨.mv (.t 0), some 11, none⟩,
  ⟨.nilchk (.t 11), some 12, none⟩,
  ⟨.faddr 0 (.t 12), some 13, none⟩,
  ⟨.load false 1 (.t 13), some 14, none⟩,
  ⟨.mv (.t 4), some 15, none⟩,
  ⟨.call J1p [(.t 14), (.t 15), (.c (.p (.i .i64 1)))] 0, some 16, none⟩,
  ⟨.faddr 1 (.t 3), some 17, none⟩,
  ⟨.load false 1 (.t 17), some 18, none⟩,
  ⟨.bin .add .plain (.t 16) (.t 18), some 19, none⟩,
  ⟨.faddr 1 (.t 3), some 20, none⟩,
  ⟨.load false 1 (.t 20), some 21, none⟩,
  ⟨.len true (.t 21), some 22, none⟩,
  ⟨.bin .sub .plain (.c (.p (.i .i64 12))) (.t 22), some 23, none⟩,
  ⟨.call J2k [(.c (.p (.s [0]))), (.t 23)] 0, some 24, none⟩,
  ⟨.bin .add .plain (.t 19) (.t 24), some 25, none⟩,
  ⟨.nilchk (.t 10), some 26, none⟩,
  ⟨.faddr 0 (.t 26), some 27, none⟩,
  ⟨.store 1 (.t 27) (.t 25), none, none⟩]
def J3u : Jj := .seq (.reg false [] [⟨.box 2 (.t 1), some 3, none⟩])
 (.seq (.reg false [] [⟨.mv (.c (.p (.i .i64 255))), some 4, none⟩])
 (.seq (.seq (.reg false [] [⟨.faddr 0 (.t 3), some 5, none⟩,
  ⟨.load false 1 (.t 5), some 6, none⟩])
 (.cond (.t 6)
 (.reg false [] [⟨.faddr 1 (.t 3), some 7, none⟩,
   ⟨.load false 1 (.t 7), some 8, none⟩,
   ⟨.len true (.t 8), some 9, none⟩,
   ⟨.mv (.t 9), some 4, none⟩])
 (.skip)))
 (.keep [0, 3, 4] J7C)))
def J2K : AFn := ⟨2, 28, J3u, [], false⟩
def J4M : Jj := .seq (.reg false [] [⟨.bin .lss .plain (.t 9) (.t 8), some 10, none⟩])
 (.seq (.cond (.t 10)
 (.skip)
 (.exit 0))
 (.seq (.block 1 (.seq (.reg false [] [⟨.mv (.t 9), some 11, none⟩,
  ⟨.mv (.t 11), some 5, none⟩])
 (.seq (.reg false [] [⟨.mv (.t 4), some 12, none⟩,
  ⟨.mv (.t 0), some 13, none⟩,
  ⟨.mv (.t 5), some 14, none⟩,
  ⟨.sidx (.t 13) (.t 14), some 15, none⟩,
  ⟨.conv (.int .u32) (.t 15), some 16, none⟩,
  ⟨.bin .xor .plain (.t 12) (.t 16), some 17, none⟩,
  ⟨.mv (.t 17), some 4, none⟩])
 (.keep [0, 3, 4, 8, 9] (.seq (.reg false [] [⟨.mv (.t 4), some 18, none⟩,
  ⟨.bin .shr .plain (.t 18) (.c (.p (.i .u64 4))), some 19, none⟩,
  ⟨.mv (.t 4), some 20, none⟩,
  ⟨.bin .and .plain (.t 20) (.c (.p (.i .u32 15))), some 21, none⟩,
  ⟨.aaddr 16 1 (.t 3) (.t 21), some 22, none⟩,
  ⟨.load false 1 (.t 22), some 23, none⟩,
  ⟨.bin .xor .plain (.t 19) (.t 23), some 24, none⟩,
  ⟨.mv (.t 24), some 4, none⟩])
 (.keep [0, 3, 4, 8, 9] (.reg false [] [⟨.mv (.t 4), some 25, none⟩,
  ⟨.bin .shr .plain (.t 25) (.c (.p (.i .u64 4))), some 26, none⟩,
  ⟨.mv (.t 4), some 27, none⟩,
  ⟨.bin .and .plain (.t 27) (.c (.p (.i .u32 15))), some 28, none⟩,
  ⟨.aaddr 16 1 (.t 3) (.t 28), some 29, none⟩,
  ⟨.load false 1 (.t 29), some 30, none⟩,
  ⟨.bin .xor .plain (.t 26) (.t 30), some 31, none⟩,
  ⟨.mv (.t 31), some 4, none⟩])))))))
 (.reg false [] [⟨.bin .add .plain (.t 9) (.c (.p (.i .i64 1))), some 32, none⟩,
  ⟨.mv (.t 32), some 9, none⟩])))
def J5S : Jj := .seq (.reg false [] [⟨.mv (.t 4), some 33, none⟩,
  ⟨.un .xor (.t 33), some 34, none⟩,
  ⟨.mv (.t 34), some 2, none⟩])
 (.ret)
def J9E : Jj := .seq (.reg false [] [⟨.mv (.c (.p (.i .u32 0))), some 2, none⟩])
 (.seq (.reg false [] [⟨.call J47 [] 0, some 6, none⟩,
  ⟨.newbox (JV (r_i .u32) (Vector.replicate 16 (0 : Int))), some 3, none⟩,
  ⟨.store 16 (.t 3) (.t 6), none, none⟩])
 (.keep [0, 3] (.seq (.reg false [] [⟨.mv (.c (.p (.i .u32 4294967295))), some 4, none⟩])
 (.seq (.seq (.reg false [] [⟨.mv (.t 0), some 7, none⟩,
  ⟨.len true (.t 7), some 8, none⟩,
  ⟨.mv (.c (.p (.i .i64 0))), some 9, none⟩])
 (.keep [0, 3, 4, 8, 9] (.block 0 (.loop [0, 3, 4, 8, 9] J4M))))
 (.keep [4] J5S)))))
def J3z : AFn := ⟨1, 35, J9E, [.tmp 2], false⟩
def J69 : Jj := .seq (.seq (.reg false [] [⟨.mv (.t 9), some 15, none⟩,
  ⟨.mv (.t 10), some 16, none⟩,
  ⟨.bin .lss .plain (.t 15) (.t 16), some 17, none⟩])
 (.keep [0, 1, 2, 8, 9, 10, 17] (.cond (.t 17)
 (.skip)
 (.exit 0))))
 (.block 1 (.seq (.reg false [] [⟨.mv (.t 9), some 18, none⟩,
  ⟨.mv (.t 10), some 19, none⟩,
  ⟨.bin .add .plain (.t 18) (.t 19), some 20, none⟩,
  ⟨.conv (.int .u64) (.t 20), some 21, none⟩,
  ⟨.bin .shr .plain (.t 21) (.c (.p (.i .u64 1))), some 22, none⟩,
  ⟨.conv (.int .i64) (.t 22), some 23, none⟩,
  ⟨.mv (.t 23), some 11, none⟩])
 (.keep [0, 1, 2, 8, 9, 10, 11] (.seq (.reg false [] [⟨.mv (.t 2), some 24, none⟩,
  ⟨.mv (.t 0), some 25, none⟩,
  ⟨.mv (.t 11), some 26, none⟩,
  ⟨.iaddr 3 (.t 25) (.t 26), some 27, none⟩,
  ⟨.load true 3 (.t 27), some 28, none⟩,
  ⟨.mv (.t 1), some 29, none⟩,
  ⟨.callv (.t 24) [(.t 28), (.t 29)] 0, some 30, none⟩,
  ⟨.bin .lss .plain (.t 30) (.c (.p (.i .i64 0))), some 31, none⟩])
 (.keep [0, 1, 2, 8, 9, 10, 11, 31] (.cond (.t 31)
 (.reg false [] [⟨.mv (.t 11), some 32, none⟩,
   ⟨.bin .add .plain (.t 32) (.c (.p (.i .i64 1))), some 33, none⟩,
   ⟨.mv (.t 33), some 9, none⟩])
 (.reg false [] [⟨.mv (.t 11), some 34, none⟩,
   ⟨.mv (.t 34), some 10, none⟩])))))))
def J6c : Jj := .seq (.reg false [] [⟨.mv (.t 9), some 35, none⟩,
  ⟨.mv (.t 9), some 36, none⟩,
  ⟨.mv (.t 8), some 37, none⟩,
  ⟨.bin .lss .plain (.t 36) (.t 37), some 38, none⟩,
  ⟨.mv (.t 38), some 39, none⟩,
  ⟨.mv (.t 2), some 40, some (39, true)⟩,
  ⟨.mv (.t 0), some 41, some (39, true)⟩,
  ⟨.mv (.t 9), some 42, some (39, true)⟩,
  ⟨.iaddr 3 (.t 41) (.t 42), some 43, some (39, true)⟩,
  ⟨.load true 3 (.t 43), some 44, some (39, true)⟩,
  ⟨.mv (.t 1), some 45, some (39, true)⟩,
  ⟨.callv (.t 40) [(.t 44), (.t 45)] 0, some 46, some (39, true)⟩,
  ⟨.bin .eql .plain (.t 46) (.c (.p (.i .i64 0))), some 47, some (39, true)⟩,
  ⟨.pick (.t 39) (.t 47) (.c (.p (.b false))), some 48, none⟩,
  ⟨.mv (.t 35), some 6, none⟩,
  ⟨.mv (.t 48), some 7, none⟩])
 (.ret)
def J1n : Jj := .seq (.reg false [] [⟨.mv (.c (.p (.i .i64 0))), some 6, none⟩,
  ⟨.mv (.c (.p (.b false))), some 7, none⟩])
 (.seq (.reg false [] [⟨.mv (.t 0), some 12, none⟩,
  ⟨.len false (.t 12), some 13, none⟩,
  ⟨.mv (.t 13), some 8, none⟩])
 (.keep [0, 1, 2, 8] (.seq (.reg false [] [⟨.mv (.t 8), some 14, none⟩,
  ⟨.mv (.c (.p (.i .i64 0))), some 9, none⟩,
  ⟨.mv (.t 14), some 10, none⟩])
 (.keep [0, 1, 2, 8, 9, 10] (.seq (.block 0 (.loop [0, 1, 2, 8, 9, 10] J69))
 (.keep [0, 1, 2, 8, 9] J6c))))))
def J35 : AFn := ⟨3, 49, J1n, [.tmp 6, .tmp 7], false⟩
def JbI : Jj := .seq (.reg false [] [⟨.box 3 (.t 0), some 2, none⟩,
  ⟨.mv (.c (.p (.i .i64 0))), some 4, none⟩,
  ⟨.mv (.c (.p (.b false))), some 5, none⟩])
 (.keep [1, 2] (.seq (.reg false [] [⟨.faddr 2 (.t 2), some 6, none⟩,
  ⟨.load false 1 (.t 6), some 7, none⟩,
  ⟨.mv (.t 1), some 8, none⟩,
  ⟨.call J1m [(.t 7), (.t 8), (.c (.fn Jag [] []))] 0, some 9, none⟩,
  ⟨.extr (.t 9) 0, some 10, none⟩,
  ⟨.extr (.t 9) 1, some 11, none⟩,
  ⟨.mv (.t 10), some 4, none⟩,
  ⟨.mv (.t 11), some 5, none⟩])
 (.ret)))
def JfF : AFn := ⟨2, 12, JbI, [.tmp 4, .tmp 5], false⟩
def J0u : Jj := .seq (.seq (.reg false [] [⟨.mv (.t 3), some 4, none⟩,
  ⟨.bin .lss .plain (.t 4) (.c (.p (.i .i64 16))), some 5, none⟩])
 (.cond (.t 5)
 (.skip)
 (.exit 0)))
 (.seq (.block 1 (.seq (.reg false [] [⟨.mv (.t 3), some 8, none⟩,
  ⟨.faddr 2 (.t 1), some 9, none⟩,
  ⟨.aaddr 16 2 (.t 9) (.t 8), some 10, none⟩,
  ⟨.load true 2 (.t 10), some 11, none⟩,
  ⟨.call J4C [(.t 11)] 0, some 12, none⟩,
  ⟨.un .not (.t 12), some 13, none⟩,
  ⟨.mv (.t 13), some 14, none⟩,
  ⟨.faddr 1 (.t 1), some 15, some (14, false)⟩,
  ⟨.load false 1 (.t 15), some 16, some (14, false)⟩,
  ⟨.bin .eql .plain (.t 16) (.c (.p (.i .i64 0))), some 17, some (14, false)⟩,
  ⟨.mv (.t 17), some 18, some (14, false)⟩,
  ⟨.mv (.t 3), some 19, some (18, true)⟩,
  ⟨.faddr 2 (.t 1), some 20, some (18, true)⟩,
  ⟨.aaddr 16 2 (.t 20) (.t 19), some 21, some (18, true)⟩,
  ⟨.faddr 0 (.t 21), some 22, some (18, true)⟩,
  ⟨.load false 1 (.t 22), some 23, some (18, true)⟩,
  ⟨.pick (.t 18) (.t 23) (.c (.p (.b false))), some 24, some (14, false)⟩,
  ⟨.pick (.t 14) (.c (.p (.b true))) (.t 24), some 25, none⟩])
 (.keep [1, 3, 25] (.cond (.t 25)
 (.seq (.reg false [] [⟨.mv (.c (.p (.b false))), some 2, none⟩])
  (.ret))
 (.skip)))))
 (.reg false [] [⟨.mv (.t 3), some 6, none⟩,
  ⟨.bin .add .plain (.t 6) (.c (.p (.i .i64 1))), some 7, none⟩,
  ⟨.mv (.t 7), some 3, none⟩]))
def J4s : Jj := .seq (.reg false [] [⟨.mv (.c (.p (.b true))), some 2, none⟩])
 (.ret)
def J8n : Jj := .seq (.reg false [] [⟨.box 34 (.t 0), some 1, none⟩,
  ⟨.mv (.c (.p (.b false))), some 2, none⟩])
 (.seq (.seq (.reg false [] [⟨.mv (.c (.p (.i .i64 0))), some 3, none⟩])
 (.block 0 (.loop [1, 3] J0u)))
 (.keep [] J4s))
def J2t : AFn := ⟨1, 26, J8n, [.tmp 2], false⟩
def J1I : Jj := .seq (.reg false [] [⟨.box 3 (.t 1), some 3, none⟩,
  ⟨.newbox (J3 default), some 4, none⟩])
 (.seq (.reg false [] [⟨.faddr 2 (.t 3), some 6, none⟩,
  ⟨.load false 1 (.t 6), some 7, none⟩,
  ⟨.appn 3 32 (J5 default) (.t 7), some 8, none⟩,
  ⟨.faddr 2 (.t 3), some 9, none⟩,
  ⟨.store 1 (.t 9) (.t 8), none, none⟩])
 (.keep [0, 3, 4] (.seq (.seq (.reg false [] [⟨.faddr 2 (.t 3), some 10, none⟩,
  ⟨.load false 1 (.t 10), some 11, none⟩,
  ⟨.len false (.t 11), some 12, none⟩,
  ⟨.bin .eql .plain (.t 12) (.c (.p (.i .i64 0))), some 13, none⟩])
 (.keep [0, 3, 4, 13] (.cond (.t 13)
 (.seq (.reg false [] [⟨.mv (.t 0), some 14, none⟩,
   ⟨.call J2Z [(.t 14)] 0, some 15, none⟩,
   ⟨.mv (.t 0), some 16, none⟩,
   ⟨.call J2Z [(.t 16)] 0, some 17, none⟩,
   ⟨.faddr 0 (.t 3), some 18, none⟩,
   ⟨.store 1 (.t 18) (.t 15), none, none⟩,
   ⟨.faddr 1 (.t 3), some 19, none⟩,
   ⟨.store 1 (.t 19) (.t 17), none, none⟩])
  (.keep [3, 4] (.seq (.reg false [] [⟨.load true 3 (.t 3), some 20, none⟩,
   ⟨.store 3 (.t 4) (.t 20), none, none⟩])
  (.ret))))
 (.skip))))
 (.seq (.reg true [(1, 6)] [⟨.faddr 2 (.t 3), some 21, none⟩,
  ⟨.load false 1 (.t 21), some 22, none⟩,
  ⟨.mv (.t 0), some 23, none⟩,
  ⟨.faddr 2 (.t 3), some 24, none⟩,
  ⟨.load false 1 (.t 24), some 25, none⟩,
  ⟨.len false (.t 25), some 26, none⟩,
  ⟨.call Jb [(.t 23), (.t 26)] 0, some 27, none⟩,
  ⟨.iaddr 3 (.t 22) (.t 27), some 28, none⟩,
  ⟨.mv (.t 28), some 5, none⟩])
 (.keep [0, 3, 4, 5] (.seq (.seq (.reg false [] [⟨.mv (.t 0), some 29, none⟩,
  ⟨.call Jb [(.t 29), (.c (.p (.i .i64 4)))] 0, some 30, none⟩])
 (.block 0 (.seq (.reg false [] [⟨.bin .eql .plain (.t 30) (.c (.p (.i .i64 0))), some 32, none⟩,
  ⟨.mv (.t 32), some 31, none⟩])
 (.cond (.t 31)
 (.reg false [] [⟨.mv (.t 5), some 33, none⟩,
   ⟨.mv (.t 0), some 34, none⟩,
   ⟨.call Jb [(.t 34), (.c (.p (.i .i64 8)))] 0, some 35, none⟩,
   ⟨.bin .sub .plain (.t 35) (.c (.p (.i .i64 1))), some 36, none⟩,
   ⟨.nilchk (.t 33), some 37, none⟩,
   ⟨.faddr 0 (.t 37), some 38, none⟩,
   ⟨.store 1 (.t 38) (.t 36), none, none⟩])
 (.seq (.reg false [] [⟨.bin .eql .plain (.t 30) (.c (.p (.i .i64 1))), some 40, none⟩,
   ⟨.mv (.t 40), some 39, none⟩])
  (.cond (.t 39)
  (.reg false [] [⟨.mv (.t 5), some 41, none⟩,
    ⟨.nilchk (.t 41), some 42, none⟩,
    ⟨.faddr 1 (.t 42), some 43, none⟩,
    ⟨.load false 1 (.t 43), some 44, none⟩,
    ⟨.bin .add .plain (.t 44) (.c (.p (.i .i64 1))), some 45, none⟩,
    ⟨.nilchk (.t 41), some 46, none⟩,
    ⟨.faddr 1 (.t 46), some 47, none⟩,
    ⟨.store 1 (.t 47) (.t 45), none, none⟩])
  (.seq (.reg false [] [⟨.bin .eql .plain (.t 30) (.c (.p (.i .i64 2))), some 49, none⟩,
    ⟨.mv (.t 49), some 48, none⟩])
   (.cond (.t 48)
   (.reg false [] [⟨.mv (.t 5), some 50, none⟩,
     ⟨.mv (.t 0), some 51, none⟩,
     ⟨.mv (.t 5), some 52, none⟩,
     ⟨.nilchk (.t 52), some 53, none⟩,
     ⟨.faddr 2 (.t 53), some 54, none⟩,
     ⟨.load false 1 (.t 54), some 55, none⟩,
     ⟨.call J1O [(.t 51), (.t 55)] 0, some 56, none⟩,
     ⟨.nilchk (.t 50), some 57, none⟩,
     ⟨.faddr 2 (.t 57), some 58, none⟩,
     ⟨.store 1 (.t 58) (.t 56), none, none⟩])
   (.seq (.reg false [] [⟨.bin .eql .plain (.t 30) (.c (.p (.i .i64 3))), some 60, none⟩,
     ⟨.mv (.t 60), some 59, none⟩])
    (.cond (.t 59)
    (.reg false [] [⟨.mv (.t 0), some 61, none⟩,
      ⟨.call Jb [(.t 61), (.c (.p (.i .i64 8)))] 0, some 62, none⟩,
      ⟨.faddr 1 (.t 3), some 63, none⟩,
      ⟨.store 1 (.t 63) (.t 62), none, none⟩])
    (.skip)))))))))))
 (.seq (.reg false [] [⟨.load true 3 (.t 3), some 64, none⟩,
  ⟨.store 3 (.t 4) (.t 64), none, none⟩])
 (.ret))))))))
def J8J : AFn := ⟨2, 65, J1I, [.cell 4 true 3], false⟩
def J3n : Jj := .seq (.reg false [] [⟨.bin .lss .plain (.t 29) (.c (.p (.i .i64 16))), some 30, none⟩])
 (.seq (.cond (.t 30)
 (.skip)
 (.exit 1))
 (.seq (.block 2 (.seq (.reg false [] [⟨.aidx true 16 2 (.t 28) (.t 29), some 31, none⟩,
  ⟨.newbox (Jk default), some 7, none⟩,
  ⟨.store 2 (.t 7) (.t 31), none, none⟩])
 (.keep [1, 4, 5, 7, 28, 29] (.reg false [] [⟨.mv (.t 5), some 32, none⟩,
  ⟨.load true 2 (.t 7), some 33, none⟩,
  ⟨.callv (.t 32) [(.t 33)] 0, some 34, none⟩]))))
 (.reg false [] [⟨.bin .add .plain (.t 29) (.c (.p (.i .i64 1))), some 35, none⟩,
  ⟨.mv (.t 35), some 29, none⟩])))
def J4h : Jj := .seq (.reg true [(3, 10)] [⟨.mv (.t 4), some 36, none⟩,
  ⟨.nilchk (.t 36), some 37, none⟩,
  ⟨.faddr 0 (.t 37), some 38, none⟩,
  ⟨.load false 1 (.t 38), some 39, none⟩,
  ⟨.mv (.t 4), some 40, none⟩,
  ⟨.nilchk (.t 40), some 41, none⟩,
  ⟨.faddr 0 (.t 41), some 42, none⟩,
  ⟨.load false 1 (.t 42), some 43, none⟩,
  ⟨.len true (.t 43), some 44, none⟩,
  ⟨.bin .sub .plain (.c (.p (.i .i64 244))) (.t 44), some 45, none⟩,
  ⟨.call J2k [(.c (.p (.s [0]))), (.t 45)] 0, some 46, none⟩,
  ⟨.bin .add .plain (.t 39) (.t 46), some 47, none⟩,
  ⟨.mv (.t 47), some 8, none⟩])
 (.keep [1, 8] (.seq (.reg true [(2, 6), (4, 6)] [⟨.mv (.t 8), some 48, none⟩,
  ⟨.mv (.t 8), some 49, none⟩,
  ⟨.call J4c [(.t 49)] 0, some 50, none⟩,
  ⟨.conv (.int .i64) (.t 50), some 51, none⟩,
  ⟨.call J1p [(.t 48), (.t 51), (.c (.p (.i .i64 4)))] 0, some 52, none⟩,
  ⟨.faddr 1 (.t 1), some 53, none⟩,
  ⟨.load false 1 (.t 53), some 54, none⟩,
  ⟨.call J1p [(.t 52), (.t 54), (.c (.p (.i .i64 8)))] 0, some 55, none⟩,
  ⟨.mv (.t 55), some 2, none⟩,
  ⟨.mv (.c (.p (.i .i64 0))), some 3, none⟩])
 (.ret)))
def J3Q : Jj := .seq (.reg false [] [⟨.box 34 (.t 0), some 1, none⟩,
  ⟨.mv (.c (.p (.s []))), some 2, none⟩,
  ⟨.mv (.c (.p (.i .i64 0))), some 3, none⟩])
 (.keep [1] (.seq (.block 0 (.seq (.reg false [] [⟨.load true 34 (.t 1), some 10, none⟩,
  ⟨.call J6J [(.t 10)] 0, some 11, none⟩,
  ⟨.un .not (.t 11), some 12, none⟩,
  ⟨.mv (.t 12), some 9, none⟩])
 (.keep [1, 9] (.cond (.t 9)
 (.seq (.reg false [] [⟨.mv (.c (.p (.s []))), some 2, none⟩,
   ⟨.mv (.c (.p (.i .i64 1))), some 3, none⟩])
  (.ret))
 (.seq (.reg false [] [⟨.load true 34 (.t 1), some 14, none⟩,
   ⟨.call J7M [(.t 14)] 0, some 15, none⟩,
   ⟨.un .not (.t 15), some 16, none⟩,
   ⟨.mv (.t 16), some 13, none⟩])
  (.keep [1, 13] (.cond (.t 13)
  (.seq (.reg false [] [⟨.mv (.c (.p (.s []))), some 2, none⟩,
    ⟨.mv (.c (.p (.i .i64 22))), some 3, none⟩])
   (.ret))
  (.skip))))))))
 (.seq (.reg true [(2, 4)] [⟨.faddr 1 (.t 1), some 17, none⟩,
  ⟨.load false 1 (.t 17), some 18, none⟩,
  ⟨.call J1p [(.c (.p (.s []))), (.t 18), (.c (.p (.i .i64 8)))] 0, some 19, none⟩,
  ⟨.faddr 0 (.t 1), some 20, none⟩,
  ⟨.load false 1 (.t 20), some 21, none⟩,
  ⟨.call J1p [(.t 19), (.t 21), (.c (.p (.i .i64 4)))] 0, some 22, none⟩,
  ⟨.build (J0x default) [(0, 1, (.t 22))], some 23, none⟩,
  ⟨.box 1 (.t 23), some 24, none⟩,
  ⟨.mv (.t 24), some 4, none⟩])
 (.keep [1, 4] (.seq (.reg false [] [⟨.mv (.t 4), some 25, none⟩,
  ⟨.mkfn J0Q [(.t 25)] [], some 26, none⟩,
  ⟨.mv (.t 26), some 5, none⟩])
 (.keep [1, 4, 5] (.seq (.tidy [1, 2, 3, 4] (.seq (.reg false [] [⟨.faddr 2 (.t 1), some 27, none⟩,
  ⟨.load true 32 (.t 27), some 28, none⟩,
  ⟨.mv (.c (.p (.i .i64 0))), some 29, none⟩])
 (.keep [1, 4, 5, 28, 29] (.block 1 (.loop [1, 4, 5, 28, 29] J3n)))))
 (.keep [1, 4] J4h))))))))
def J2p : AFn := ⟨1, 56, J3Q, [.tmp 2, .tmp 3], false⟩
def J6R : Jj := .seq (.reg false [] [⟨.mv (.c (.p (.s []))), some 2, none⟩])
 (.seq (.seq (.reg false [] [⟨.mv (.t 0), some 4, none⟩,
  ⟨.len true (.t 4), some 5, none⟩,
  ⟨.bin .gtr .plain (.t 5) (.c (.p (.i .i64 8392))), some 6, none⟩])
 (.keep [0, 6] (.cond (.t 6)
 (.seq (.reg false [] [⟨.mv (.c (.p (.s []))), some 2, none⟩])
  (.ret))
 (.skip))))
 (.seq (.reg false [] [⟨.mv (.t 0), some 7, none⟩,
  ⟨.len true (.t 7), some 8, none⟩,
  ⟨.call J1p [(.c (.p (.s []))), (.t 8), (.c (.p (.i .i64 4)))] 0, some 9, none⟩,
  ⟨.mv (.t 0), some 10, none⟩,
  ⟨.bin .add .plain (.t 9) (.t 10), some 11, none⟩,
  ⟨.mv (.t 11), some 3, none⟩])
 (.keep [3] (.seq (.reg false [] [⟨.mv (.t 3), some 12, none⟩,
  ⟨.mv (.t 3), some 13, none⟩,
  ⟨.call J4c [(.t 13)] 0, some 14, none⟩,
  ⟨.conv (.int .i64) (.t 14), some 15, none⟩,
  ⟨.call J1p [(.t 12), (.t 15), (.c (.p (.i .i64 4)))] 0, some 16, none⟩,
  ⟨.mv (.t 16), some 2, none⟩])
 (.ret)))))
def J70 : AFn := ⟨1, 17, J6R, [.tmp 2], false⟩
def J0b : Jj := .seq (.reg false [] [⟨.mv (.c (.p (.s []))), some 4, none⟩,
  ⟨.mv (.c (.p (.i .i64 0))), some 5, none⟩,
  ⟨.mv (.c (.p (.i .i64 0))), some 6, none⟩])
 (.keep [0, 1] (.seq (.seq (.reg false [] [⟨.mv (.t 1), some 10, none⟩,
  ⟨.bin .lss .plain (.t 10) (.c (.p (.i .i64 0))), some 11, none⟩,
  ⟨.mv (.t 11), some 12, none⟩,
  ⟨.mv (.t 1), some 13, some (12, false)⟩,
  ⟨.mv (.t 0), some 14, some (12, false)⟩,
  ⟨.len true (.t 14), some 15, some (12, false)⟩,
  ⟨.bin .gtr .plain (.t 13) (.t 15), some 16, some (12, false)⟩,
  ⟨.pick (.t 12) (.c (.p (.b true))) (.t 16), some 17, none⟩])
 (.keep [0, 1, 17] (.cond (.t 17)
 (.seq (.reg false [] [⟨.mv (.c (.p (.s []))), some 4, none⟩,
   ⟨.mv (.c (.p (.i .i64 0))), some 5, none⟩,
   ⟨.mv (.c (.p (.i .i64 1))), some 6, none⟩])
  (.ret))
 (.skip))))
 (.seq (.reg false [] [⟨.mv (.t 0), some 19, none⟩,
  ⟨.mv (.t 1), some 20, none⟩,
  ⟨.call J31 [(.t 19), (.t 20), (.c (.p (.i .i64 4)))] 0, some 21, none⟩,
  ⟨.mv (.t 21), some 18, none⟩,
  ⟨.extr (.t 18) 0, some 22, none⟩,
  ⟨.extr (.t 18) 1, some 23, none⟩,
  ⟨.mv (.t 22), some 7, none⟩,
  ⟨.mv (.t 23), some 6, none⟩])
 (.keep [0, 1, 6, 7] (.seq (.block 0 (.seq (.reg false [] [⟨.mv (.t 6), some 25, none⟩,
  ⟨.bin .neq .plain (.t 25) (.c (.p (.i .i64 0))), some 26, none⟩,
  ⟨.mv (.t 26), some 24, none⟩])
 (.keep [0, 1, 6, 7, 24] (.cond (.t 24)
 (.seq (.reg false [] [⟨.mv (.t 6), some 27, none⟩,
   ⟨.mv (.c (.p (.s []))), some 4, none⟩,
   ⟨.mv (.c (.p (.i .i64 0))), some 5, none⟩,
   ⟨.mv (.t 27), some 6, none⟩])
  (.ret))
 (.seq (.reg false [] [⟨.mv (.t 7), some 29, none⟩,
   ⟨.bin .gtr .plain (.t 29) (.c (.p (.i .i64 8392))), some 30, none⟩,
   ⟨.mv (.t 30), some 28, none⟩])
  (.keep [0, 1, 7, 28] (.cond (.t 28)
  (.seq (.reg false [] [⟨.mv (.c (.p (.s []))), some 4, none⟩,
    ⟨.mv (.c (.p (.i .i64 0))), some 5, none⟩,
    ⟨.mv (.c (.p (.i .i64 2))), some 6, none⟩])
   (.ret))
  (.skip))))))))
 (.seq (.reg false [] [⟨.mv (.t 1), some 31, none⟩,
  ⟨.bin .add .plain (.t 31) (.c (.p (.i .i64 4))), some 32, none⟩,
  ⟨.mv (.t 7), some 33, none⟩,
  ⟨.bin .add .plain (.t 32) (.t 33), some 34, none⟩,
  ⟨.mv (.t 34), some 8, none⟩])
 (.keep [0, 1, 8] (.seq (.reg false [] [⟨.mv (.t 0), some 36, none⟩,
  ⟨.mv (.t 8), some 37, none⟩,
  ⟨.call J31 [(.t 36), (.t 37), (.c (.p (.i .i64 4)))] 0, some 38, none⟩,
  ⟨.mv (.t 38), some 35, none⟩,
  ⟨.extr (.t 35) 0, some 39, none⟩,
  ⟨.extr (.t 35) 1, some 40, none⟩,
  ⟨.mv (.t 39), some 9, none⟩,
  ⟨.mv (.t 40), some 6, none⟩])
 (.keep [0, 1, 6, 8, 9] (.seq (.block 1 (.seq (.reg false [] [⟨.mv (.t 6), some 42, none⟩,
  ⟨.bin .neq .plain (.t 42) (.c (.p (.i .i64 0))), some 43, none⟩,
  ⟨.mv (.t 43), some 41, none⟩])
 (.keep [0, 1, 6, 8, 9, 41] (.cond (.t 41)
 (.seq (.reg false [] [⟨.mv (.t 6), some 44, none⟩,
   ⟨.mv (.c (.p (.s []))), some 4, none⟩,
   ⟨.mv (.c (.p (.i .i64 0))), some 5, none⟩,
   ⟨.mv (.t 44), some 6, none⟩])
  (.ret))
 (.seq (.reg false [] [⟨.mv (.t 9), some 46, none⟩,
   ⟨.mv (.t 0), some 47, none⟩,
   ⟨.mv (.t 1), some 48, none⟩,
   ⟨.mv (.t 8), some 49, none⟩,
   ⟨.slice .str (.t 47) (some (.t 48)) (some (.t 49)) none, some 50, none⟩,
   ⟨.call J4c [(.t 50)] 0, some 51, none⟩,
   ⟨.conv (.int .i64) (.t 51), some 52, none⟩,
   ⟨.bin .neq .plain (.t 46) (.t 52), some 53, none⟩,
   ⟨.mv (.t 53), some 45, none⟩])
  (.keep [0, 1, 8, 45] (.cond (.t 45)
  (.seq (.reg false [] [⟨.mv (.c (.p (.s []))), some 4, none⟩,
    ⟨.mv (.c (.p (.i .i64 0))), some 5, none⟩,
    ⟨.mv (.c (.p (.i .i64 3))), some 6, none⟩])
   (.ret))
  (.skip))))))))
 (.seq (.reg false [] [⟨.mv (.t 0), some 54, none⟩,
  ⟨.mv (.t 1), some 55, none⟩,
  ⟨.bin .add .plain (.t 55) (.c (.p (.i .i64 4))), some 56, none⟩,
  ⟨.mv (.t 8), some 57, none⟩,
  ⟨.slice .str (.t 54) (some (.t 56)) (some (.t 57)) none, some 58, none⟩,
  ⟨.mv (.t 8), some 59, none⟩,
  ⟨.bin .add .plain (.t 59) (.c (.p (.i .i64 4))), some 60, none⟩,
  ⟨.mv (.t 58), some 4, none⟩,
  ⟨.mv (.t 60), some 5, none⟩,
  ⟨.mv (.c (.p (.i .i64 0))), some 6, none⟩])
 (.ret))))))))))))
def J5w : AFn := ⟨2, 61, J0b, [.tmp 4, .tmp 5, .tmp 6], false⟩
def J3R : Jj := .seq (.reg false [] [⟨.box 34 (.t 0), some 1, none⟩,
  ⟨.mv (.c (.p (.i .i64 0))), some 2, none⟩])
 (.seq (.block 0 (.seq (.reg false [] [⟨.load true 34 (.t 1), some 4, none⟩,
  ⟨.call J5x [(.t 4)] 0, some 5, none⟩,
  ⟨.un .not (.t 5), some 6, none⟩,
  ⟨.mv (.t 6), some 3, none⟩])
 (.keep [1, 3] (.cond (.t 3)
 (.seq (.reg false [] [⟨.mv (.c (.p (.i .i64 1))), some 2, none⟩])
  (.ret))
 (.seq (.reg false [] [⟨.load true 34 (.t 1), some 8, none⟩,
   ⟨.call J6V [(.t 8)] 0, some 9, none⟩,
   ⟨.un .not (.t 9), some 10, none⟩,
   ⟨.mv (.t 10), some 7, none⟩])
  (.keep [7] (.cond (.t 7)
  (.seq (.reg false [] [⟨.mv (.c (.p (.i .i64 22))), some 2, none⟩])
   (.ret))
  (.skip))))))))
 (.seq (.reg false [] [⟨.mv (.c (.p (.i .i64 0))), some 2, none⟩])
 (.ret)))
def J73 : AFn := ⟨1, 11, J3R, [.tmp 2], false⟩
def J0g : Jj := .seq (.reg false [] [⟨.newbox (J4 default), some 2, none⟩,
  ⟨.mv (.c (.p (.i .i64 0))), some 3, none⟩])
 (.seq (.block 0 (.seq (.reg false [] [⟨.mv (.t 0), some 9, none⟩,
  ⟨.len true (.t 9), some 10, none⟩,
  ⟨.bin .neq .plain (.t 10) (.c (.p (.i .i64 256))), some 11, none⟩,
  ⟨.mv (.t 11), some 8, none⟩])
 (.keep [0, 2, 8] (.cond (.t 8)
 (.seq (.reg false [] [⟨.build (J4 default) [], some 12, none⟩,
   ⟨.store 34 (.t 2) (.t 12), none, none⟩,
   ⟨.mv (.c (.p (.i .i64 2))), some 3, none⟩])
  (.ret))
 (.seq (.reg false [] [⟨.mv (.t 0), some 14, none⟩,
   ⟨.call J7O [] 0, some 15, none⟩,
   ⟨.bin .eql .plain (.t 14) (.t 15), some 16, none⟩,
   ⟨.mv (.t 16), some 13, none⟩])
  (.keep [0, 2, 13] (.cond (.t 13)
  (.seq (.reg false [] [⟨.build (J4 default) [], some 17, none⟩,
    ⟨.store 34 (.t 2) (.t 17), none, none⟩,
    ⟨.mv (.c (.p (.i .i64 7))), some 3, none⟩])
   (.ret))
  (.seq (.reg true [] [⟨.mv (.t 0), some 19, none⟩,
    ⟨.slice .str (.t 19) none (some (.c (.p (.i .i64 8)))) none, some 20, none⟩,
    ⟨.mv (.t 0), some 21, none⟩,
    ⟨.slice .str (.t 21) (some (.c (.p (.i .i64 248)))) none none, some 22, none⟩,
    ⟨.bin .neq .plain (.t 20) (.t 22), some 23, none⟩,
    ⟨.mv (.t 23), some 18, none⟩])
   (.keep [0, 2, 18] (.cond (.t 18)
   (.seq (.reg false [] [⟨.build (J4 default) [], some 24, none⟩,
     ⟨.store 34 (.t 2) (.t 24), none, none⟩,
     ⟨.mv (.c (.p (.i .i64 27))), some 3, none⟩])
    (.ret))
   (.seq (.reg true [] [⟨.mv (.t 0), some 26, none⟩,
     ⟨.call J3M [(.t 26), (.c (.p (.i .i64 244))), (.c (.p (.i .i64 4)))] 0, some 27, none⟩,
     ⟨.mv (.t 0), some 28, none⟩,
     ⟨.slice .str (.t 28) none (some (.c (.p (.i .i64 244)))) none, some 29, none⟩,
     ⟨.call J4c [(.t 29)] 0, some 30, none⟩,
     ⟨.conv (.int .i64) (.t 30), some 31, none⟩,
     ⟨.bin .neq .plain (.t 27) (.t 31), some 32, none⟩,
     ⟨.mv (.t 32), some 25, none⟩])
    (.keep [0, 2, 25] (.cond (.t 25)
    (.seq (.reg false [] [⟨.build (J4 default) [], some 33, none⟩,
      ⟨.store 34 (.t 2) (.t 33), none, none⟩,
      ⟨.mv (.c (.p (.i .i64 3))), some 3, none⟩])
     (.ret))
    (.skip))))))))))))))
 (.seq (.reg false [] [⟨.mv (.t 0), some 35, none⟩,
  ⟨.call J8y [(.t 35)] 0, some 36, none⟩,
  ⟨.mv (.t 36), some 34, none⟩,
  ⟨.extr (.t 34) 0, some 37, none⟩,
  ⟨.extr (.t 34) 1, some 38, none⟩,
  ⟨.newbox (J4 default), some 4, none⟩,
  ⟨.store 34 (.t 4) (.t 37), none, none⟩,
  ⟨.mv (.t 38), some 5, none⟩])
 (.keep [0, 2, 4, 5] (.seq (.seq (.reg false [] [⟨.load true 34 (.t 4), some 40, none⟩,
  ⟨.call J6L [(.t 40)] 0, some 41, none⟩,
  ⟨.mv (.t 41), some 39, none⟩,
  ⟨.extr (.t 39) 0, some 42, none⟩,
  ⟨.extr (.t 39) 1, some 43, none⟩,
  ⟨.mv (.t 42), some 6, none⟩,
  ⟨.mv (.t 43), some 7, none⟩])
 (.keep [0, 2, 4, 5, 6, 7] (.seq (.reg false [] [⟨.mv (.t 5), some 44, none⟩,
  ⟨.un .not (.t 44), some 45, none⟩,
  ⟨.mv (.t 45), some 46, none⟩,
  ⟨.mv (.t 7), some 47, some (46, false)⟩,
  ⟨.bin .neq .plain (.t 47) (.c (.p (.i .i64 0))), some 48, some (46, false)⟩,
  ⟨.pick (.t 46) (.c (.p (.b true))) (.t 48), some 49, none⟩,
  ⟨.mv (.t 49), some 50, none⟩,
  ⟨.mv (.t 6), some 51, some (50, false)⟩,
  ⟨.mv (.t 0), some 52, some (50, false)⟩,
  ⟨.bin .neq .plain (.t 51) (.t 52), some 53, some (50, false)⟩,
  ⟨.pick (.t 50) (.c (.p (.b true))) (.t 53), some 54, none⟩])
 (.keep [2, 4, 54] (.cond (.t 54)
 (.seq (.reg false [] [⟨.build (J4 default) [], some 55, none⟩,
   ⟨.store 34 (.t 2) (.t 55), none, none⟩,
   ⟨.mv (.c (.p (.i .i64 4))), some 3, none⟩])
  (.ret))
 (.skip))))))
 (.seq (.reg false [] [⟨.load true 34 (.t 4), some 56, none⟩,
  ⟨.store 34 (.t 2) (.t 56), none, none⟩,
  ⟨.mv (.c (.p (.i .i64 0))), some 3, none⟩])
 (.ret))))))
def J6P : AFn := ⟨1, 57, J0g, [.cell 2 true 34, .tmp 3], false⟩
def Jaf : Jj := .seq (.reg false [] [⟨.mv (.t 5), some 35, none⟩,
  ⟨.mv (.t 7), some 36, none⟩,
  ⟨.call J14 [(.t 35), (.t 36), (.c (.p (.i .i64 1)))] 0, some 37, none⟩,
  ⟨.mv (.t 37), some 5, none⟩])
 (.keep [1, 5, 6] (.reg true [(5, 13)] [⟨.mv (.t 5), some 38, none⟩,
  ⟨.mv (.t 6), some 39, none⟩,
  ⟨.faddr 2 (.t 1), some 40, none⟩,
  ⟨.aaddr 16 2 (.t 40) (.t 39), some 41, none⟩,
  ⟨.faddr 1 (.t 41), some 42, none⟩,
  ⟨.load false 1 (.t 42), some 43, none⟩,
  ⟨.mv (.t 6), some 44, none⟩,
  ⟨.faddr 2 (.t 1), some 45, none⟩,
  ⟨.aaddr 16 2 (.t 45) (.t 44), some 46, none⟩,
  ⟨.faddr 1 (.t 46), some 47, none⟩,
  ⟨.load false 1 (.t 47), some 48, none⟩,
  ⟨.len true (.t 48), some 49, none⟩,
  ⟨.bin .sub .plain (.c (.p (.i .i64 12))) (.t 49), some 50, none⟩,
  ⟨.call J3L [(.t 50)] 0, some 51, none⟩,
  ⟨.bin .add .plain (.t 43) (.t 51), some 52, none⟩,
  ⟨.bin .add .plain (.t 38) (.t 52), some 53, none⟩,
  ⟨.mv (.t 53), some 5, none⟩]))
def J7Z : Jj := .reg false [] [⟨.mv (.t 6), some 22, none⟩,
  ⟨.bin .add .plain (.t 22) (.c (.p (.i .i64 1))), some 23, none⟩,
  ⟨.mv (.t 23), some 6, none⟩]
def J0U : Jj := .seq (.seq (.reg false [] [⟨.mv (.t 6), some 20, none⟩,
  ⟨.bin .lss .plain (.t 20) (.c (.p (.i .i64 16))), some 21, none⟩])
 (.cond (.t 21)
 (.skip)
 (.exit 0)))
 (.seq (.block 1 (.seq (.reg false [] [⟨.mv (.c (.p (.i .i64 255))), some 7, none⟩])
 (.seq (.seq (.reg false [] [⟨.mv (.t 6), some 24, none⟩,
  ⟨.faddr 2 (.t 1), some 25, none⟩,
  ⟨.aaddr 16 2 (.t 25) (.t 24), some 26, none⟩,
  ⟨.faddr 0 (.t 26), some 27, none⟩,
  ⟨.load false 1 (.t 27), some 28, none⟩])
 (.keep [1, 5, 6, 7, 28] (.cond (.t 28)
 (.reg false [] [⟨.mv (.t 6), some 29, none⟩,
   ⟨.faddr 2 (.t 1), some 30, none⟩,
   ⟨.aaddr 16 2 (.t 30) (.t 29), some 31, none⟩,
   ⟨.faddr 1 (.t 31), some 32, none⟩,
   ⟨.load false 1 (.t 32), some 33, none⟩,
   ⟨.len true (.t 33), some 34, none⟩,
   ⟨.mv (.t 34), some 7, none⟩])
 (.skip))))
 (.keep [1, 5, 6, 7] Jaf))))
 (.keep [1, 5, 6] J7Z))
def J2a : Jj := .seq (.reg false [] [⟨.mv (.t 5), some 54, none⟩,
  ⟨.mv (.t 5), some 55, none⟩,
  ⟨.len true (.t 55), some 56, none⟩,
  ⟨.bin .sub .plain (.c (.p (.i .i64 244))) (.t 56), some 57, none⟩,
  ⟨.call J3L [(.t 57)] 0, some 58, none⟩,
  ⟨.bin .add .plain (.t 54) (.t 58), some 59, none⟩,
  ⟨.mv (.t 59), some 5, none⟩])
 (.keep [1, 5] (.seq (.reg false [] [⟨.mv (.t 5), some 60, none⟩,
  ⟨.mv (.t 5), some 61, none⟩,
  ⟨.call J5p [(.t 61)] 0, some 62, none⟩,
  ⟨.conv (.int .i64) (.t 62), some 63, none⟩,
  ⟨.call J14 [(.t 60), (.t 63), (.c (.p (.i .i64 4)))] 0, some 64, none⟩,
  ⟨.mv (.t 64), some 5, none⟩])
 (.keep [1, 5] (.seq (.reg false [] [⟨.mv (.t 5), some 65, none⟩,
  ⟨.faddr 1 (.t 1), some 66, none⟩,
  ⟨.load false 1 (.t 66), some 67, none⟩,
  ⟨.call J14 [(.t 65), (.t 67), (.c (.p (.i .i64 8)))] 0, some 68, none⟩,
  ⟨.mv (.t 68), some 2, none⟩,
  ⟨.mv (.c (.p (.i .i64 0))), some 3, none⟩])
 (.ret)))))
def J5f : Jj := .seq (.reg false [] [⟨.box 34 (.t 0), some 1, none⟩,
  ⟨.mv (.c (.p (.s []))), some 2, none⟩,
  ⟨.mv (.c (.p (.i .i64 0))), some 3, none⟩])
 (.keep [1] (.seq (.seq (.reg false [] [⟨.load true 34 (.t 1), some 8, none⟩,
  ⟨.call J6I [(.t 8)] 0, some 9, none⟩,
  ⟨.mv (.t 9), some 4, none⟩])
 (.keep [1, 4] (.seq (.reg false [] [⟨.mv (.t 4), some 10, none⟩,
  ⟨.bin .neq .plain (.t 10) (.c (.p (.i .i64 0))), some 11, none⟩])
 (.cond (.t 11)
 (.seq (.reg false [] [⟨.mv (.t 4), some 12, none⟩,
   ⟨.mv (.c (.p (.s []))), some 2, none⟩,
   ⟨.mv (.t 12), some 3, none⟩])
  (.ret))
 (.skip)))))
 (.seq (.reg false [] [⟨.faddr 1 (.t 1), some 13, none⟩,
  ⟨.load false 1 (.t 13), some 14, none⟩,
  ⟨.call J14 [(.c (.p (.s []))), (.t 14), (.c (.p (.i .i64 8)))] 0, some 15, none⟩,
  ⟨.mv (.t 15), some 5, none⟩])
 (.keep [1, 5] (.seq (.reg false [] [⟨.mv (.t 5), some 16, none⟩,
  ⟨.faddr 0 (.t 1), some 17, none⟩,
  ⟨.load false 1 (.t 17), some 18, none⟩,
  ⟨.call J14 [(.t 16), (.t 18), (.c (.p (.i .i64 4)))] 0, some 19, none⟩,
  ⟨.mv (.t 19), some 5, none⟩])
 (.keep [1, 5] (.seq (.seq (.reg false [] [⟨.mv (.c (.p (.i .i64 0))), some 6, none⟩])
 (.block 0 (.loop [1, 5, 6] J0U)))
 (.keep [1, 5] J2a))))))))
def J16 : AFn := ⟨1, 69, J5f, [.tmp 2, .tmp 3], false⟩
def J4f : Jj := .seq (.reg false [] [⟨.mv (.c (.p (.s []))), some 4, none⟩])
 (.seq (.seq (.reg false [] [⟨.mv (.t 0), some 7, none⟩,
  ⟨.call Jb [(.t 7), (.c (.p (.i .i64 6)))] 0, some 8, none⟩])
 (.block 0 (.seq (.reg false [] [⟨.bin .eql .plain (.t 8) (.c (.p (.i .i64 0))), some 10, none⟩,
  ⟨.mv (.t 10), some 9, none⟩])
 (.cond (.t 9)
 (.seq (.reg false [] [⟨.call J5Q [] 0, some 11, none⟩,
   ⟨.mv (.t 11), some 4, none⟩])
  (.ret))
 (.seq (.reg false [] [⟨.bin .eql .plain (.t 8) (.c (.p (.i .i64 1))), some 13, none⟩,
   ⟨.mv (.t 13), some 12, none⟩])
  (.cond (.t 12)
  (.seq (.reg false [] [⟨.mv (.t 0), some 14, none⟩,
    ⟨.call J40 [(.t 14)] 0, some 15, none⟩,
    ⟨.mv (.t 15), some 4, none⟩])
   (.ret))
  (.skip)))))))
 (.seq (.reg false [] [⟨.mv (.t 0), some 17, none⟩,
  ⟨.mv (.t 1), some 18, none⟩,
  ⟨.call J4A [(.t 17), (.t 18)] 0, some 19, none⟩,
  ⟨.call J5l [(.t 19)] 0, some 20, none⟩,
  ⟨.mv (.t 20), some 16, none⟩,
  ⟨.extr (.t 16) 0, some 21, none⟩,
  ⟨.extr (.t 16) 1, some 22, none⟩,
  ⟨.mv (.t 21), some 5, none⟩,
  ⟨.mv (.t 22), some 6, none⟩])
 (.keep [5] (.seq (.reg false [] [⟨.mv (.t 5), some 23, none⟩,
  ⟨.mv (.t 23), some 4, none⟩])
 (.ret)))))
def J7F : AFn := ⟨2, 24, J4f, [.tmp 4], false⟩
def J0N : Jj := .seq (.reg false [] [⟨.newbox (J4 default), some 4, none⟩,
  ⟨.mv (.c (.p (.i .i64 0))), some 5, none⟩])
 (.seq (.seq (.reg false [] [⟨.mv (.t 1), some 8, none⟩,
  ⟨.call J6q [(.t 8)] 0, some 9, none⟩,
  ⟨.un .not (.t 9), some 10, none⟩])
 (.keep [0, 1, 4, 10] (.cond (.t 10)
 (.seq (.reg false [] [⟨.build (J4 default) [], some 11, none⟩,
   ⟨.store 34 (.t 4) (.t 11), none, none⟩,
   ⟨.mv (.c (.p (.i .i64 1))), some 5, none⟩])
  (.ret))
 (.skip))))
 (.seq (.reg false [] [⟨.mv (.t 0), some 13, none⟩,
  ⟨.call J72 [(.t 13)] 0, some 14, none⟩,
  ⟨.mv (.t 14), some 12, none⟩,
  ⟨.extr (.t 12) 0, some 15, none⟩,
  ⟨.extr (.t 12) 1, some 16, none⟩,
  ⟨.newbox (J4 default), some 6, none⟩,
  ⟨.store 34 (.t 6) (.t 15), none, none⟩,
  ⟨.mv (.t 16), some 7, none⟩])
 (.keep [1, 4, 6, 7] (.seq (.block 0 (.seq (.reg false [] [⟨.mv (.t 7), some 18, none⟩,
  ⟨.bin .eql .plain (.t 18) (.c (.p (.i .i64 7))), some 19, none⟩,
  ⟨.mv (.t 19), some 17, none⟩])
 (.keep [1, 4, 6, 7, 17] (.cond (.t 17)
 (.seq (.reg false [] [⟨.mv (.t 1), some 20, none⟩,
   ⟨.call J9x [(.t 20)] 0, some 21, none⟩,
   ⟨.store 34 (.t 4) (.t 21), none, none⟩,
   ⟨.mv (.c (.p (.i .i64 0))), some 5, none⟩])
  (.ret))
 (.seq (.reg false [] [⟨.mv (.t 7), some 23, none⟩,
   ⟨.bin .neq .plain (.t 23) (.c (.p (.i .i64 0))), some 24, none⟩,
   ⟨.mv (.t 24), some 22, none⟩])
  (.keep [1, 4, 6, 7, 22] (.cond (.t 22)
  (.seq (.reg false [] [⟨.build (J4 default) [], some 25, none⟩,
    ⟨.mv (.t 7), some 26, none⟩,
    ⟨.store 34 (.t 4) (.t 25), none, none⟩,
    ⟨.mv (.t 26), some 5, none⟩])
   (.ret))
  (.seq (.reg false [] [⟨.faddr 0 (.t 6), some 28, none⟩,
    ⟨.load false 1 (.t 28), some 29, none⟩,
    ⟨.mv (.t 1), some 30, none⟩,
    ⟨.bin .neq .plain (.t 29) (.t 30), some 31, none⟩,
    ⟨.mv (.t 31), some 27, none⟩])
   (.keep [4, 6, 27] (.cond (.t 27)
   (.seq (.reg false [] [⟨.build (J4 default) [], some 32, none⟩,
     ⟨.store 34 (.t 4) (.t 32), none, none⟩,
     ⟨.mv (.c (.p (.i .i64 6))), some 5, none⟩])
    (.ret))
   (.skip)))))))))))
 (.seq (.reg false [] [⟨.load true 34 (.t 6), some 33, none⟩,
  ⟨.store 34 (.t 4) (.t 33), none, none⟩,
  ⟨.mv (.c (.p (.i .i64 0))), some 5, none⟩])
 (.ret))))))
def J5C : AFn := ⟨2, 34, J0N, [.cell 4 true 34, .tmp 5], false⟩
def Jaj : Jj := .reg false [] [⟨.mv (.t 7), some 55, none⟩,
  ⟨.bin .add .plain (.t 55) (.c (.p (.i .i64 1))), some 56, none⟩,
  ⟨.mv (.t 56), some 7, none⟩]
def J0A : Jj := .seq (.seq (.reg false [] [⟨.mv (.t 7), some 53, none⟩,
  ⟨.bin .lss .plain (.t 53) (.c (.p (.i .i64 16))), some 54, none⟩])
 (.cond (.t 54)
 (.skip)
 (.exit 1)))
 (.seq (.block 2 (.seq (.reg false [] [⟨.mv (.t 7), some 57, none⟩,
  ⟨.bin .mul .plain (.t 57) (.c (.p (.i .i64 13))), some 58, none⟩,
  ⟨.bin .add .plain (.c (.p (.i .i64 12))) (.t 58), some 59, none⟩,
  ⟨.mv (.t 59), some 8, none⟩])
 (.keep [0, 2, 6, 7, 8] (.seq (.reg false [] [⟨.mv (.t 0), some 60, none⟩,
  ⟨.mv (.t 8), some 61, none⟩,
  ⟨.sidx (.t 60) (.t 61), some 62, none⟩,
  ⟨.conv (.int .i64) (.t 62), some 63, none⟩,
  ⟨.mv (.t 63), some 9, none⟩])
 (.keep [0, 2, 6, 7, 8, 9] (.seq (.seq (.reg false [] [⟨.mv (.t 9), some 64, none⟩,
  ⟨.bin .eql .plain (.t 64) (.c (.p (.i .i64 255))), some 65, none⟩])
 (.cond (.t 65)
 (.exit 2)
 (.skip)))
 (.seq (.seq (.reg false [] [⟨.mv (.t 9), some 66, none⟩,
  ⟨.bin .gtr .plain (.t 66) (.c (.p (.i .i64 12))), some 67, none⟩])
 (.cond (.t 67)
 (.seq (.reg false [] [⟨.build (J4 default) [], some 68, none⟩,
   ⟨.store 34 (.t 2) (.t 68), none, none⟩,
   ⟨.mv (.c (.p (.i .i64 4))), some 3, none⟩])
  (.ret))
 (.skip)))
 (.reg false [] [⟨.mv (.t 7), some 69, none⟩,
  ⟨.mv (.t 0), some 70, none⟩,
  ⟨.mv (.t 8), some 71, none⟩,
  ⟨.bin .add .plain (.t 71) (.c (.p (.i .i64 1))), some 72, none⟩,
  ⟨.mv (.t 8), some 73, none⟩,
  ⟨.bin .add .plain (.t 73) (.c (.p (.i .i64 1))), some 74, none⟩,
  ⟨.mv (.t 9), some 75, none⟩,
  ⟨.bin .add .plain (.t 74) (.t 75), some 76, none⟩,
  ⟨.slice .str (.t 70) (some (.t 72)) (some (.t 76)) none, some 77, none⟩,
  ⟨.build (Jk default) [(0, 1, (.c (.p (.b true)))), (1, 1, (.t 77))], some 78, none⟩,
  ⟨.faddr 2 (.t 6), some 79, none⟩,
  ⟨.aaddr 16 2 (.t 79) (.t 69), some 80, none⟩,
  ⟨.store 2 (.t 80) (.t 78), none, none⟩]))))))))
 (.keep [0, 2, 6, 7] Jaj))
def J0T : Jj := .seq (.seq (.reg false [] [⟨.load true 34 (.t 6), some 82, none⟩,
  ⟨.call J5l [(.t 82)] 0, some 83, none⟩,
  ⟨.mv (.t 83), some 81, none⟩,
  ⟨.extr (.t 81) 0, some 84, none⟩,
  ⟨.extr (.t 81) 1, some 85, none⟩,
  ⟨.mv (.t 84), some 10, none⟩,
  ⟨.mv (.t 85), some 11, none⟩])
 (.keep [0, 2, 6, 10, 11] (.seq (.reg false [] [⟨.mv (.t 11), some 86, none⟩,
  ⟨.bin .neq .plain (.t 86) (.c (.p (.i .i64 0))), some 87, none⟩,
  ⟨.mv (.t 87), some 88, none⟩,
  ⟨.mv (.t 10), some 89, some (88, false)⟩,
  ⟨.mv (.t 0), some 90, some (88, false)⟩,
  ⟨.bin .neq .plain (.t 89) (.t 90), some 91, some (88, false)⟩,
  ⟨.pick (.t 88) (.c (.p (.b true))) (.t 91), some 92, none⟩])
 (.keep [2, 6, 92] (.cond (.t 92)
 (.seq (.reg false [] [⟨.build (J4 default) [], some 93, none⟩,
   ⟨.store 34 (.t 2) (.t 93), none, none⟩,
   ⟨.mv (.c (.p (.i .i64 4))), some 3, none⟩])
  (.ret))
 (.skip))))))
 (.seq (.reg false [] [⟨.load true 34 (.t 6), some 94, none⟩,
  ⟨.store 34 (.t 2) (.t 94), none, none⟩,
  ⟨.mv (.c (.p (.i .i64 0))), some 3, none⟩])
 (.ret))
def J1r : Jj := .seq (.reg false [] [⟨.newbox (J4 default), some 2, none⟩,
  ⟨.mv (.c (.p (.i .i64 0))), some 3, none⟩])
 (.seq (.block 0 (.seq (.reg false [] [⟨.mv (.t 0), some 13, none⟩,
  ⟨.len true (.t 13), some 14, none⟩,
  ⟨.bin .neq .plain (.t 14) (.c (.p (.i .i64 256))), some 15, none⟩,
  ⟨.mv (.t 15), some 12, none⟩])
 (.keep [0, 2, 12] (.cond (.t 12)
 (.seq (.reg false [] [⟨.build (J4 default) [], some 16, none⟩,
   ⟨.store 34 (.t 2) (.t 16), none, none⟩,
   ⟨.mv (.c (.p (.i .i64 2))), some 3, none⟩])
  (.ret))
 (.seq (.reg false [] [⟨.mv (.t 0), some 18, none⟩,
   ⟨.call J5Q [] 0, some 19, none⟩,
   ⟨.bin .eql .plain (.t 18) (.t 19), some 20, none⟩,
   ⟨.mv (.t 20), some 17, none⟩])
  (.keep [0, 2, 17] (.cond (.t 17)
  (.seq (.reg false [] [⟨.build (J4 default) [], some 21, none⟩,
    ⟨.store 34 (.t 2) (.t 21), none, none⟩,
    ⟨.mv (.c (.p (.i .i64 7))), some 3, none⟩])
   (.ret))
  (.seq (.reg true [] [⟨.mv (.t 0), some 23, none⟩,
    ⟨.slice .str (.t 23) none (some (.c (.p (.i .i64 8)))) none, some 24, none⟩,
    ⟨.mv (.t 0), some 25, none⟩,
    ⟨.slice .str (.t 25) (some (.c (.p (.i .i64 248)))) none none, some 26, none⟩,
    ⟨.bin .neq .plain (.t 24) (.t 26), some 27, none⟩,
    ⟨.mv (.t 27), some 22, none⟩])
   (.keep [0, 2, 22] (.cond (.t 22)
   (.seq (.reg false [] [⟨.build (J4 default) [], some 28, none⟩,
     ⟨.store 34 (.t 2) (.t 28), none, none⟩,
     ⟨.mv (.c (.p (.i .i64 27))), some 3, none⟩])
    (.ret))
   (.skip)))))))))))
 (.seq (.reg false [] [⟨.mv (.t 0), some 30, none⟩,
  ⟨.call J3D [(.t 30), (.c (.p (.i .i64 244))), (.c (.p (.i .i64 4)))] 0, some 31, none⟩,
  ⟨.mv (.t 31), some 29, none⟩,
  ⟨.extr (.t 29) 0, some 32, none⟩,
  ⟨.extr (.t 29) 1, some 33, none⟩,
  ⟨.mv (.t 32), some 4, none⟩,
  ⟨.mv (.t 33), some 5, none⟩])
 (.keep [0, 2, 4] (.seq (.seq (.reg false [] [⟨.mv (.t 4), some 34, none⟩,
  ⟨.conv (.int .u32) (.t 34), some 35, none⟩,
  ⟨.mv (.t 0), some 36, none⟩,
  ⟨.slice .str (.t 36) none (some (.c (.p (.i .i64 244)))) none, some 37, none⟩,
  ⟨.call J5p [(.t 37)] 0, some 38, none⟩,
  ⟨.bin .neq .plain (.t 35) (.t 38), some 39, none⟩])
 (.keep [0, 2, 39] (.cond (.t 39)
 (.seq (.reg false [] [⟨.build (J4 default) [], some 40, none⟩,
   ⟨.store 34 (.t 2) (.t 40), none, none⟩,
   ⟨.mv (.c (.p (.i .i64 3))), some 3, none⟩])
  (.ret))
 (.skip))))
 (.seq (.reg false [] [⟨.newbox (J4 default), some 6, none⟩])
 (.seq (.reg false [] [⟨.mv (.t 0), some 42, none⟩,
  ⟨.call J3D [(.t 42), (.c (.p (.i .i64 0))), (.c (.p (.i .i64 8)))] 0, some 43, none⟩,
  ⟨.mv (.t 43), some 41, none⟩,
  ⟨.extr (.t 41) 0, some 44, none⟩,
  ⟨.extr (.t 41) 1, some 45, none⟩,
  ⟨.faddr 1 (.t 6), some 46, none⟩,
  ⟨.store 1 (.t 46) (.t 44), none, none⟩])
 (.keep [0, 2, 6] (.seq (.reg false [] [⟨.mv (.t 0), some 48, none⟩,
  ⟨.call J3D [(.t 48), (.c (.p (.i .i64 8))), (.c (.p (.i .i64 4)))] 0, some 49, none⟩,
  ⟨.mv (.t 49), some 47, none⟩,
  ⟨.extr (.t 47) 0, some 50, none⟩,
  ⟨.extr (.t 47) 1, some 51, none⟩,
  ⟨.faddr 0 (.t 6), some 52, none⟩,
  ⟨.store 1 (.t 52) (.t 50), none, none⟩])
 (.keep [0, 2, 6] (.seq (.seq (.reg false [] [⟨.mv (.c (.p (.i .i64 0))), some 7, none⟩])
 (.block 1 (.loop [0, 2, 6, 7] J0A)))
 (.keep [0, 2, 6] J0T)))))))))))
def J1s : AFn := ⟨1, 95, J1r, [.cell 2 true 34, .tmp 3], false⟩
def JN : Jj := .seq (.reg false [] [⟨.bin .lss .plain (.t 36) (.t 35), some 37, none⟩])
 (.seq (.cond (.t 37)
 (.skip)
 (.exit 0))
 (.seq (.block 1 (.seq (.reg false [] [⟨.mv (.t 36), some 38, none⟩,
  ⟨.mv (.t 38), some 3, none⟩])
 (.seq (.reg false [] [⟨.faddr 2 (.t 1), some 39, none⟩,
  ⟨.load false 1 (.t 39), some 40, none⟩,
  ⟨.mv (.t 3), some 41, none⟩,
  ⟨.iaddr 3 (.t 40) (.t 41), some 42, none⟩,
  ⟨.load true 3 (.t 42), some 43, none⟩,
  ⟨.newbox (J5 default), some 4, none⟩,
  ⟨.store 3 (.t 4) (.t 43), none, none⟩])
 (.keep [1, 3, 4, 35, 36] (.seq (.seq (.reg true [] [⟨.faddr 0 (.t 4), some 44, none⟩,
  ⟨.load false 1 (.t 44), some 45, none⟩,
  ⟨.faddr 1 (.t 1), some 46, none⟩,
  ⟨.load false 1 (.t 46), some 47, none⟩,
  ⟨.bin .geq .plain (.t 45) (.t 47), some 48, none⟩,
  ⟨.mv (.t 48), some 49, none⟩,
  ⟨.mv (.t 3), some 50, some (49, false)⟩,
  ⟨.bin .gtr .plain (.t 50) (.c (.p (.i .i64 0))), some 51, some (49, false)⟩,
  ⟨.mv (.t 51), some 52, some (49, false)⟩,
  ⟨.faddr 2 (.t 1), some 53, some (52, true)⟩,
  ⟨.load false 1 (.t 53), some 54, some (52, true)⟩,
  ⟨.mv (.t 3), some 55, some (52, true)⟩,
  ⟨.bin .sub .plain (.t 55) (.c (.p (.i .i64 1))), some 56, some (52, true)⟩,
  ⟨.iaddr 3 (.t 54) (.t 56), some 57, some (52, true)⟩,
  ⟨.faddr 0 (.t 57), some 58, some (52, true)⟩,
  ⟨.load false 1 (.t 58), some 59, some (52, true)⟩,
  ⟨.faddr 0 (.t 4), some 60, some (52, true)⟩,
  ⟨.load false 1 (.t 60), some 61, some (52, true)⟩,
  ⟨.bin .geq .plain (.t 59) (.t 61), some 62, some (52, true)⟩,
  ⟨.pick (.t 52) (.t 62) (.c (.p (.b false))), some 63, some (49, false)⟩,
  ⟨.pick (.t 49) (.c (.p (.b true))) (.t 63), some 64, none⟩])
 (.keep [1, 4, 35, 36, 64] (.cond (.t 64)
 (.seq (.reg false [] [⟨.mv (.c (.p (.b false))), some 2, none⟩])
  (.ret))
 (.skip))))
 (.seq (.reg false [] [⟨.faddr 2 (.t 4), some 66, none⟩,
  ⟨.load false 1 (.t 66), some 67, none⟩,
  ⟨.faddr 0 (.t 4), some 68, none⟩,
  ⟨.load false 1 (.t 68), some 69, none⟩,
  ⟨.call J3o [(.t 67), (.t 69)] 0, some 70, none⟩,
  ⟨.mv (.t 70), some 65, none⟩,
  ⟨.extr (.t 65) 0, some 71, none⟩,
  ⟨.extr (.t 65) 1, some 72, none⟩,
  ⟨.newbox (J4 default), some 5, none⟩,
  ⟨.store 34 (.t 5) (.t 71), none, none⟩,
  ⟨.mv (.t 72), some 6, none⟩])
 (.keep [1, 4, 5, 6, 35, 36] (.seq (.reg false [] [⟨.mv (.t 6), some 73, none⟩,
  ⟨.bin .neq .plain (.t 73) (.c (.p (.i .i64 0))), some 74, none⟩,
  ⟨.mv (.t 74), some 75, none⟩,
  ⟨.faddr 1 (.t 5), some 76, some (75, false)⟩,
  ⟨.load false 1 (.t 76), some 77, some (75, false)⟩,
  ⟨.faddr 1 (.t 4), some 78, some (75, false)⟩,
  ⟨.load false 1 (.t 78), some 79, some (75, false)⟩,
  ⟨.bin .neq .plain (.t 77) (.t 79), some 80, some (75, false)⟩,
  ⟨.pick (.t 75) (.c (.p (.b true))) (.t 80), some 81, none⟩])
 (.keep [1, 35, 36, 81] (.cond (.t 81)
 (.seq (.reg false [] [⟨.mv (.c (.p (.b false))), some 2, none⟩])
  (.ret))
 (.skip)))))))))))
 (.reg false [] [⟨.bin .add .plain (.t 36) (.c (.p (.i .i64 1))), some 82, none⟩,
  ⟨.mv (.t 82), some 36, none⟩])))
def J4l : Jj := .seq (.reg false [] [⟨.mv (.c (.p (.b true))), some 2, none⟩])
 (.ret)
def J1c : Jj := .seq (.reg false [] [⟨.box 3 (.t 0), some 1, none⟩,
  ⟨.mv (.c (.p (.b false))), some 2, none⟩])
 (.seq (.seq (.reg false [] [⟨.faddr 0 (.t 1), some 7, none⟩,
  ⟨.load false 1 (.t 7), some 8, none⟩,
  ⟨.bin .lss .plain (.t 8) (.c (.p (.i .i64 1))), some 9, none⟩,
  ⟨.mv (.t 9), some 10, none⟩,
  ⟨.faddr 0 (.t 1), some 11, some (10, false)⟩,
  ⟨.load false 1 (.t 11), some 12, some (10, false)⟩,
  ⟨.bin .gtr .plain (.t 12) (.c (.p (.i .i64 1073741824))), some 13, some (10, false)⟩,
  ⟨.pick (.t 10) (.c (.p (.b true))) (.t 13), some 14, none⟩,
  ⟨.mv (.t 14), some 15, none⟩,
  ⟨.faddr 1 (.t 1), some 16, some (15, false)⟩,
  ⟨.load false 1 (.t 16), some 17, some (15, false)⟩,
  ⟨.bin .lss .plain (.t 17) (.c (.p (.i .i64 1))), some 18, some (15, false)⟩,
  ⟨.pick (.t 15) (.c (.p (.b true))) (.t 18), some 19, none⟩,
  ⟨.mv (.t 19), some 20, none⟩,
  ⟨.faddr 1 (.t 1), some 21, some (20, false)⟩,
  ⟨.load false 1 (.t 21), some 22, some (20, false)⟩,
  ⟨.bin .gtr .plain (.t 22) (.c (.p (.i .i64 64))), some 23, some (20, false)⟩,
  ⟨.pick (.t 20) (.c (.p (.b true))) (.t 23), some 24, none⟩,
  ⟨.mv (.t 24), some 25, none⟩,
  ⟨.faddr 2 (.t 1), some 26, some (25, false)⟩,
  ⟨.load false 1 (.t 26), some 27, some (25, false)⟩,
  ⟨.len false (.t 27), some 28, some (25, false)⟩,
  ⟨.faddr 1 (.t 1), some 29, some (25, false)⟩,
  ⟨.load false 1 (.t 29), some 30, some (25, false)⟩,
  ⟨.bin .gtr .plain (.t 28) (.t 30), some 31, some (25, false)⟩,
  ⟨.pick (.t 25) (.c (.p (.b true))) (.t 31), some 32, none⟩])
 (.keep [1, 32] (.cond (.t 32)
 (.seq (.reg false [] [⟨.mv (.c (.p (.b false))), some 2, none⟩])
  (.ret))
 (.skip))))
 (.seq (.tidy [2] (.seq (.reg false [] [⟨.faddr 2 (.t 1), some 33, none⟩,
  ⟨.load false 1 (.t 33), some 34, none⟩,
  ⟨.len false (.t 34), some 35, none⟩,
  ⟨.mv (.c (.p (.i .i64 0))), some 36, none⟩])
 (.keep [1, 35, 36] (.block 0 (.loop [1, 35, 36] JN)))))
 (.keep [] J4l)))
def J2m : AFn := ⟨1, 83, J1c, [.tmp 2], false⟩
def J6w : Jj := .seq (.reg false [] [⟨.newbox (J5 default), some 2, none⟩])
 (.seq (.reg false [] [⟨.mv (.t 0), some 6, none⟩,
  ⟨.slice .str (.t 6) (some (.c (.p (.i .i64 2)))) none none, some 7, none⟩,
  ⟨.build (J5 default) [(2, 1, (.t 7))], some 8, none⟩,
  ⟨.newbox (J5 default), some 3, none⟩,
  ⟨.store 3 (.t 3) (.t 8), none, none⟩])
 (.keep [0, 2, 3] (.seq (.reg false [] [⟨.mv (.t 0), some 10, none⟩,
  ⟨.call J31 [(.t 10), (.c (.p (.i .i64 0))), (.c (.p (.i .i64 2)))] 0, some 11, none⟩,
  ⟨.mv (.t 11), some 9, none⟩,
  ⟨.extr (.t 9) 0, some 12, none⟩,
  ⟨.extr (.t 9) 1, some 13, none⟩,
  ⟨.faddr 0 (.t 3), some 14, none⟩,
  ⟨.store 1 (.t 14) (.t 12), none, none⟩])
 (.keep [2, 3] (.seq (.reg false [] [⟨.faddr 2 (.t 3), some 16, none⟩,
  ⟨.load false 1 (.t 16), some 17, none⟩,
  ⟨.faddr 0 (.t 3), some 18, none⟩,
  ⟨.load false 1 (.t 18), some 19, none⟩,
  ⟨.call J3o [(.t 17), (.t 19)] 0, some 20, none⟩,
  ⟨.mv (.t 20), some 15, none⟩,
  ⟨.extr (.t 15) 0, some 21, none⟩,
  ⟨.extr (.t 15) 1, some 22, none⟩,
  ⟨.newbox (J4 default), some 4, none⟩,
  ⟨.store 34 (.t 4) (.t 21), none, none⟩,
  ⟨.mv (.t 22), some 5, none⟩])
 (.keep [2, 3, 4] (.seq (.reg false [] [⟨.faddr 1 (.t 4), some 23, none⟩,
  ⟨.load false 1 (.t 23), some 24, none⟩,
  ⟨.faddr 1 (.t 3), some 25, none⟩,
  ⟨.store 1 (.t 25) (.t 24), none, none⟩])
 (.keep [2, 3] (.seq (.reg false [] [⟨.load true 3 (.t 3), some 26, none⟩,
  ⟨.store 3 (.t 2) (.t 26), none, none⟩])
 (.ret))))))))))
def J5b : AFn := ⟨1, 27, J6w, [.cell 2 true 3], false⟩
def J0k : Jj := .seq (.reg false [] [⟨.newbox (J4 default), some 4, none⟩,
  ⟨.mv (.c (.p (.i .i64 0))), some 5, none⟩])
 (.seq (.seq (.reg false [] [⟨.mv (.t 1), some 8, none⟩,
  ⟨.bin .lss .plain (.t 8) (.c (.p (.i .i64 0))), some 9, none⟩,
  ⟨.mv (.t 9), some 10, none⟩,
  ⟨.mv (.t 1), some 11, some (10, false)⟩,
  ⟨.bin .geq .plain (.t 11) (.c (.p (.i .i64 64))), some 12, some (10, false)⟩,
  ⟨.pick (.t 10) (.c (.p (.b true))) (.t 12), some 13, none⟩])
 (.keep [0, 1, 4, 13] (.cond (.t 13)
 (.seq (.reg false [] [⟨.build (J4 default) [], some 14, none⟩,
   ⟨.store 34 (.t 4) (.t 14), none, none⟩,
   ⟨.mv (.c (.p (.i .i64 1))), some 5, none⟩])
  (.ret))
 (.skip))))
 (.seq (.reg false [] [⟨.mv (.t 0), some 16, none⟩,
  ⟨.call J68 [(.t 16)] 0, some 17, none⟩,
  ⟨.mv (.t 17), some 15, none⟩,
  ⟨.extr (.t 15) 0, some 18, none⟩,
  ⟨.extr (.t 15) 1, some 19, none⟩,
  ⟨.newbox (J4 default), some 6, none⟩,
  ⟨.store 34 (.t 6) (.t 18), none, none⟩,
  ⟨.mv (.t 19), some 7, none⟩])
 (.keep [1, 4, 6, 7] (.seq (.seq (.reg false [] [⟨.mv (.t 7), some 20, none⟩,
  ⟨.bin .eql .plain (.t 20) (.c (.p (.i .i64 7))), some 21, none⟩])
 (.cond (.t 21)
 (.seq (.reg false [] [⟨.mv (.t 1), some 22, none⟩,
   ⟨.call J8z [(.t 22)] 0, some 23, none⟩,
   ⟨.store 34 (.t 4) (.t 23), none, none⟩,
   ⟨.mv (.c (.p (.i .i64 0))), some 5, none⟩])
  (.ret))
 (.skip)))
 (.seq (.seq (.reg false [] [⟨.mv (.t 7), some 24, none⟩,
  ⟨.bin .eql .plain (.t 24) (.c (.p (.i .i64 0))), some 25, none⟩,
  ⟨.mv (.t 25), some 26, none⟩,
  ⟨.faddr 0 (.t 6), some 27, some (26, true)⟩,
  ⟨.load false 1 (.t 27), some 28, some (26, true)⟩,
  ⟨.mv (.t 1), some 29, some (26, true)⟩,
  ⟨.bin .neq .plain (.t 28) (.t 29), some 30, some (26, true)⟩,
  ⟨.pick (.t 26) (.t 30) (.c (.p (.b false))), some 31, none⟩])
 (.keep [4, 6, 7, 31] (.cond (.t 31)
 (.seq (.reg false [] [⟨.build (J4 default) [], some 32, none⟩,
   ⟨.store 34 (.t 4) (.t 32), none, none⟩,
   ⟨.mv (.c (.p (.i .i64 6))), some 5, none⟩])
  (.ret))
 (.skip))))
 (.seq (.reg false [] [⟨.load true 34 (.t 6), some 33, none⟩,
  ⟨.mv (.t 7), some 34, none⟩,
  ⟨.store 34 (.t 4) (.t 33), none, none⟩,
  ⟨.mv (.t 34), some 5, none⟩])
 (.ret)))))))
def J5c : AFn := ⟨2, 35, J0k, [.cell 4 true 34, .tmp 5], false⟩
def J0V : Jj := .seq (.reg false [] [⟨.bin .lss .plain (.t 50) (.t 49), some 51, none⟩])
 (.seq (.cond (.t 51)
 (.skip)
 (.exit 0))
 (.seq (.block 1 (.seq (.seq (.reg false [] [⟨.mv (.t 0), some 53, none⟩,
  ⟨.mv (.t 5), some 54, none⟩,
  ⟨.call J4o [(.t 53), (.t 54)] 0, some 55, none⟩,
  ⟨.mv (.t 55), some 52, none⟩,
  ⟨.extr (.t 52) 0, some 56, none⟩,
  ⟨.extr (.t 52) 1, some 57, none⟩,
  ⟨.extr (.t 52) 2, some 58, none⟩,
  ⟨.mv (.t 56), some 4, none⟩,
  ⟨.mv (.t 57), some 5, none⟩,
  ⟨.mv (.t 58), some 6, none⟩])
 (.keep [0, 2, 4, 5, 6, 7, 49, 50] (.seq (.reg false [] [⟨.mv (.t 6), some 59, none⟩,
  ⟨.bin .neq .plain (.t 59) (.c (.p (.i .i64 0))), some 60, none⟩])
 (.cond (.t 60)
 (.seq (.reg false [] [⟨.buildo (J3 default) [] [(2, 3)], some 61, none⟩,
   ⟨.mv (.t 6), some 62, none⟩,
   ⟨.store 3 (.t 2) (.t 61), none, none⟩,
   ⟨.mv (.t 62), some 3, none⟩])
  (.ret))
 (.skip)))))
 (.seq (.seq (.reg false [] [⟨.mv (.t 4), some 63, none⟩,
  ⟨.len true (.t 63), some 64, none⟩,
  ⟨.bin .neq .plain (.t 64) (.c (.p (.i .i64 258))), some 65, none⟩])
 (.keep [0, 2, 4, 5, 7, 49, 50, 65] (.cond (.t 65)
 (.seq (.reg false [] [⟨.buildo (J3 default) [] [(2, 3)], some 66, none⟩,
   ⟨.store 3 (.t 2) (.t 66), none, none⟩,
   ⟨.mv (.c (.p (.i .i64 4))), some 3, none⟩])
  (.ret))
 (.skip))))
 (.reg true [(1, 3), (1, 4)] [⟨.faddr 2 (.t 7), some 67, none⟩,
  ⟨.load false 1 (.t 67), some 68, none⟩,
  ⟨.mv (.t 4), some 69, none⟩,
  ⟨.call J3Z [(.t 69)] 0, some 70, none⟩,
  ⟨.lits false 3 1 (J5 default) [(0, (.t 70))], some 71, none⟩,
  ⟨.app 3 32 (J5 default) (.t 68) (.t 71), some 72, none⟩,
  ⟨.faddr 2 (.t 7), some 73, none⟩,
  ⟨.store 1 (.t 73) (.t 72), none, none⟩]))))
 (.reg false [] [⟨.bin .add .plain (.t 50) (.c (.p (.i .i64 1))), some 74, none⟩,
  ⟨.mv (.t 74), some 50, none⟩])))
def J1G : Jj := .seq (.block 2 (.seq (.reg false [] [⟨.mv (.t 5), some 76, none⟩,
  ⟨.mv (.t 0), some 77, none⟩,
  ⟨.len true (.t 77), some 78, none⟩,
  ⟨.bin .lss .plain (.t 76) (.t 78), some 79, none⟩,
  ⟨.mv (.t 79), some 75, none⟩])
 (.keep [2, 7, 75] (.cond (.t 75)
 (.seq (.reg false [] [⟨.buildo (J3 default) [] [(2, 3)], some 80, none⟩,
   ⟨.store 3 (.t 2) (.t 80), none, none⟩,
   ⟨.mv (.c (.p (.i .i64 4))), some 3, none⟩])
  (.ret))
 (.seq (.reg false [] [⟨.load true 3 (.t 7), some 82, none⟩,
   ⟨.call J4K [(.t 82)] 0, some 83, none⟩,
   ⟨.un .not (.t 83), some 84, none⟩,
   ⟨.mv (.t 84), some 81, none⟩])
  (.keep [2, 7, 81] (.cond (.t 81)
  (.seq (.reg false [] [⟨.buildo (J3 default) [] [(2, 3)], some 85, none⟩,
    ⟨.store 3 (.t 2) (.t 85), none, none⟩,
    ⟨.mv (.c (.p (.i .i64 43))), some 3, none⟩])
   (.ret))
  (.skip))))))))
 (.seq (.reg false [] [⟨.load true 3 (.t 7), some 86, none⟩,
  ⟨.store 3 (.t 2) (.t 86), none, none⟩,
  ⟨.mv (.c (.p (.i .i64 0))), some 3, none⟩])
 (.ret))
def J18 : Jj := .seq (.reg false [] [⟨.newboxo (J3 default) [(2, 3)], some 2, none⟩,
  ⟨.mv (.c (.p (.i .i64 0))), some 3, none⟩])
 (.seq (.reg false [] [⟨.mv (.t 0), some 11, none⟩,
  ⟨.call J4o [(.t 11), (.c (.p (.i .i64 0)))] 0, some 12, none⟩,
  ⟨.mv (.t 12), some 10, none⟩,
  ⟨.extr (.t 10) 0, some 13, none⟩,
  ⟨.extr (.t 10) 1, some 14, none⟩,
  ⟨.extr (.t 10) 2, some 15, none⟩,
  ⟨.mv (.t 13), some 4, none⟩,
  ⟨.mv (.t 14), some 5, none⟩,
  ⟨.mv (.t 15), some 6, none⟩])
 (.keep [0, 2, 4, 5, 6] (.seq (.seq (.reg false [] [⟨.mv (.t 6), some 16, none⟩,
  ⟨.bin .neq .plain (.t 16) (.c (.p (.i .i64 0))), some 17, none⟩])
 (.cond (.t 17)
 (.seq (.reg false [] [⟨.buildo (J3 default) [] [(2, 3)], some 18, none⟩,
   ⟨.mv (.t 6), some 19, none⟩,
   ⟨.store 3 (.t 2) (.t 18), none, none⟩,
   ⟨.mv (.t 19), some 3, none⟩])
  (.ret))
 (.skip)))
 (.seq (.seq (.reg false [] [⟨.mv (.t 4), some 20, none⟩,
  ⟨.len true (.t 20), some 21, none⟩,
  ⟨.bin .neq .plain (.t 21) (.c (.p (.i .i64 12))), some 22, none⟩,
  ⟨.mv (.t 22), some 23, none⟩,
  ⟨.mv (.t 4), some 24, some (23, false)⟩,
  ⟨.call J3t [(.t 24), (.c (.p (.s [80, 77, 73, 77])))] 0, some 25, some (23, false)⟩,
  ⟨.un .not (.t 25), some 26, some (23, false)⟩,
  ⟨.pick (.t 23) (.c (.p (.b true))) (.t 26), some 27, none⟩])
 (.keep [0, 2, 4, 5, 27] (.cond (.t 27)
 (.seq (.reg false [] [⟨.buildo (J3 default) [] [(2, 3)], some 28, none⟩,
   ⟨.store 3 (.t 2) (.t 28), none, none⟩,
   ⟨.mv (.c (.p (.i .i64 4))), some 3, none⟩])
  (.ret))
 (.skip))))
 (.seq (.reg false [] [⟨.newboxo (J3 default) [(2, 3)], some 7, none⟩])
 (.seq (.reg false [] [⟨.mv (.t 4), some 30, none⟩,
  ⟨.call J31 [(.t 30), (.c (.p (.i .i64 4))), (.c (.p (.i .i64 4)))] 0, some 31, none⟩,
  ⟨.mv (.t 31), some 29, none⟩,
  ⟨.extr (.t 29) 0, some 32, none⟩,
  ⟨.extr (.t 29) 1, some 33, none⟩,
  ⟨.faddr 0 (.t 7), some 34, none⟩,
  ⟨.store 1 (.t 34) (.t 32), none, none⟩])
 (.keep [0, 2, 4, 5, 7] (.seq (.reg false [] [⟨.mv (.t 4), some 36, none⟩,
  ⟨.call J31 [(.t 36), (.c (.p (.i .i64 8))), (.c (.p (.i .i64 2)))] 0, some 37, none⟩,
  ⟨.mv (.t 37), some 35, none⟩,
  ⟨.extr (.t 35) 0, some 38, none⟩,
  ⟨.extr (.t 35) 1, some 39, none⟩,
  ⟨.faddr 1 (.t 7), some 40, none⟩,
  ⟨.store 1 (.t 40) (.t 38), none, none⟩])
 (.keep [0, 2, 4, 5, 7] (.seq (.reg false [] [⟨.mv (.t 4), some 42, none⟩,
  ⟨.call J31 [(.t 42), (.c (.p (.i .i64 10))), (.c (.p (.i .i64 2)))] 0, some 43, none⟩,
  ⟨.mv (.t 43), some 41, none⟩,
  ⟨.extr (.t 41) 0, some 44, none⟩,
  ⟨.extr (.t 41) 1, some 45, none⟩,
  ⟨.mv (.t 44), some 8, none⟩,
  ⟨.mv (.t 45), some 9, none⟩])
 (.keep [0, 2, 5, 7, 8] (.seq (.seq (.reg false [] [⟨.mv (.t 8), some 46, none⟩,
  ⟨.bin .gtr .plain (.t 46) (.c (.p (.i .i64 64))), some 47, none⟩])
 (.cond (.t 47)
 (.seq (.reg false [] [⟨.buildo (J3 default) [] [(2, 3)], some 48, none⟩,
   ⟨.store 3 (.t 2) (.t 48), none, none⟩,
   ⟨.mv (.c (.p (.i .i64 4))), some 3, none⟩])
  (.ret))
 (.skip)))
 (.seq (.tidy [0, 2, 3, 5, 7] (.seq (.reg false [] [⟨.mv (.t 8), some 49, none⟩,
  ⟨.mv (.c (.p (.i .i64 0))), some 50, none⟩])
 (.block 0 (.loop [0, 2, 5, 7, 49, 50] J0V))))
 (.keep [0, 2, 5, 7] J1G))))))))))))))
def J1U : AFn := ⟨1, 87, J18, [.cell 2 true 3, .tmp 3], false⟩
def JmE : Jj := .seq (.reg false [] [⟨.faddr 2 (.t 3), some 56, none⟩,
  ⟨.load false 1 (.t 56), some 57, none⟩,
  ⟨.mv (.t 10), some 58, none⟩,
  ⟨.mv (.t 1), some 59, none⟩,
  ⟨.faddr 1 (.t 8), some 60, none⟩,
  ⟨.load false 1 (.t 60), some 61, none⟩,
  ⟨.mv (.t 2), some 62, none⟩,
  ⟨.build (J5 default) [(0, 1, (.t 59)), (1, 1, (.t 61)), (2, 1, (.t 62))], some 63, none⟩,
  ⟨.iaddr 3 (.t 57) (.t 58), some 64, none⟩,
  ⟨.store 3 (.t 64) (.t 63), none, none⟩])
 (.keep [3, 6] (.seq (.reg false [] [⟨.load true 3 (.t 3), some 65, none⟩,
  ⟨.store 3 (.t 6) (.t 65), none, none⟩,
  ⟨.mv (.c (.p (.i .i64 0))), some 7, none⟩])
 (.ret)))
def JdV : Jj := .seq (.reg false [] [⟨.box 3 (.t 0), some 3, none⟩,
  ⟨.newbox (J3 default), some 6, none⟩,
  ⟨.mv (.c (.p (.i .i64 0))), some 7, none⟩])
 (.keep [1, 2, 3, 6] (.seq (.block 0 (.seq (.reg false [] [⟨.load true 3 (.t 3), some 13, none⟩,
  ⟨.call J4K [(.t 13)] 0, some 14, none⟩,
  ⟨.un .not (.t 14), some 15, none⟩,
  ⟨.mv (.t 15), some 12, none⟩])
 (.keep [1, 2, 3, 6, 12] (.cond (.t 12)
 (.seq (.reg false [] [⟨.build (J3 default) [], some 16, none⟩,
   ⟨.store 3 (.t 6) (.t 16), none, none⟩,
   ⟨.mv (.c (.p (.i .i64 43))), some 7, none⟩])
  (.ret))
 (.seq (.reg false [] [⟨.mv (.t 1), some 18, none⟩,
   ⟨.bin .lss .plain (.t 18) (.c (.p (.i .i64 0))), some 19, none⟩,
   ⟨.mv (.t 19), some 20, none⟩,
   ⟨.mv (.t 1), some 21, some (20, false)⟩,
   ⟨.faddr 1 (.t 3), some 22, some (20, false)⟩,
   ⟨.load false 1 (.t 22), some 23, some (20, false)⟩,
   ⟨.bin .geq .plain (.t 21) (.t 23), some 24, some (20, false)⟩,
   ⟨.pick (.t 20) (.c (.p (.b true))) (.t 24), some 25, none⟩,
   ⟨.mv (.t 25), some 17, none⟩])
  (.keep [1, 2, 3, 6, 17] (.cond (.t 17)
  (.seq (.reg false [] [⟨.build (J3 default) [], some 26, none⟩,
    ⟨.store 3 (.t 6) (.t 26), none, none⟩,
    ⟨.mv (.c (.p (.i .i64 1))), some 7, none⟩])
   (.ret))
  (.skip))))))))
 (.seq (.reg false [] [⟨.mv (.t 2), some 28, none⟩,
  ⟨.mv (.t 1), some 29, none⟩,
  ⟨.call J3o [(.t 28), (.t 29)] 0, some 30, none⟩,
  ⟨.mv (.t 30), some 27, none⟩,
  ⟨.extr (.t 27) 0, some 31, none⟩,
  ⟨.extr (.t 27) 1, some 32, none⟩,
  ⟨.newbox (J4 default), some 8, none⟩,
  ⟨.store 34 (.t 8) (.t 31), none, none⟩,
  ⟨.mv (.t 32), some 9, none⟩])
 (.keep [1, 2, 3, 6, 8, 9] (.seq (.seq (.reg false [] [⟨.mv (.t 9), some 33, none⟩,
  ⟨.bin .neq .plain (.t 33) (.c (.p (.i .i64 0))), some 34, none⟩])
 (.cond (.t 34)
 (.seq (.reg false [] [⟨.build (J3 default) [], some 35, none⟩,
   ⟨.mv (.t 9), some 36, none⟩,
   ⟨.store 3 (.t 6) (.t 35), none, none⟩,
   ⟨.mv (.t 36), some 7, none⟩])
  (.ret))
 (.skip)))
 (.seq (.reg false [] [⟨.load true 3 (.t 3), some 38, none⟩,
  ⟨.mv (.t 1), some 39, none⟩,
  ⟨.call JbV [(.t 38), (.t 39)] 0, some 40, none⟩,
  ⟨.mv (.t 40), some 37, none⟩,
  ⟨.extr (.t 37) 0, some 41, none⟩,
  ⟨.extr (.t 37) 1, some 42, none⟩,
  ⟨.mv (.t 41), some 10, none⟩,
  ⟨.mv (.t 42), some 11, none⟩])
 (.keep [1, 2, 3, 6, 8, 10, 11] (.seq (.reg false [] [⟨.faddr 2 (.t 3), some 43, none⟩,
  ⟨.load false 1 (.t 43), some 44, none⟩,
  ⟨.call J3T [(.t 44)] 1, some 45, none⟩,
  ⟨.faddr 2 (.t 3), some 46, none⟩,
  ⟨.store 1 (.t 46) (.t 45), none, none⟩])
 (.keep [1, 2, 3, 6, 8, 10, 11] (.seq (.tidy [1, 2, 3, 6, 7, 8, 10] (.seq (.reg false [] [⟨.mv (.t 11), some 47, none⟩,
  ⟨.un .not (.t 47), some 48, none⟩])
 (.cond (.t 48)
 (.reg false [] [⟨.faddr 2 (.t 3), some 49, none⟩,
   ⟨.load false 1 (.t 49), some 50, none⟩,
   ⟨.mv (.t 10), some 51, none⟩,
   ⟨.build (J5 default) [], some 52, none⟩,
   ⟨.lits true 3 1 (J5 default) [(0, (.t 52))], some 53, none⟩,
   ⟨.callo J67 [true, false, true] [(.t 50), (.t 51), (.t 53)] 0, some 54, none⟩,
   ⟨.faddr 2 (.t 3), some 55, none⟩,
   ⟨.store 1 (.t 55) (.t 54), none, none⟩])
 (.skip))))
 (.keep [1, 2, 3, 6, 8, 10] JmE)))))))))))
def JhU : AFn := ⟨3, 66, JdV, [.cell 6 true 3, .tmp 7], false⟩
def JJ : Jj := .seq (.seq (.reg false [] [⟨.mv (.t 3), some 25, none⟩,
  ⟨.faddr 2 (.t 1), some 26, none⟩,
  ⟨.load false 1 (.t 26), some 27, none⟩,
  ⟨.len false (.t 27), some 28, none⟩,
  ⟨.bin .lss .plain (.t 25) (.t 28), some 29, none⟩])
 (.keep [1, 3, 29] (.cond (.t 29)
 (.skip)
 (.exit 0))))
 (.seq (.block 1 (.seq (.reg false [] [⟨.faddr 2 (.t 1), some 32, none⟩,
  ⟨.load false 1 (.t 32), some 33, none⟩,
  ⟨.mv (.t 3), some 34, none⟩,
  ⟨.iaddr 3 (.t 33) (.t 34), some 35, none⟩,
  ⟨.load true 3 (.t 35), some 36, none⟩,
  ⟨.newbox (J5 default), some 4, none⟩,
  ⟨.store 3 (.t 4) (.t 36), none, none⟩])
 (.keep [1, 3, 4] (.seq (.seq (.reg true [] [⟨.faddr 0 (.t 4), some 37, none⟩,
  ⟨.load false 1 (.t 37), some 38, none⟩,
  ⟨.bin .lss .plain (.t 38) (.c (.p (.i .i64 0))), some 39, none⟩,
  ⟨.mv (.t 39), some 40, none⟩,
  ⟨.faddr 0 (.t 4), some 41, some (40, false)⟩,
  ⟨.load false 1 (.t 41), some 42, some (40, false)⟩,
  ⟨.faddr 1 (.t 1), some 43, some (40, false)⟩,
  ⟨.load false 1 (.t 43), some 44, some (40, false)⟩,
  ⟨.bin .geq .plain (.t 42) (.t 44), some 45, some (40, false)⟩,
  ⟨.pick (.t 40) (.c (.p (.b true))) (.t 45), some 46, none⟩,
  ⟨.mv (.t 46), some 47, none⟩,
  ⟨.mv (.t 3), some 48, some (47, false)⟩,
  ⟨.bin .gtr .plain (.t 48) (.c (.p (.i .i64 0))), some 49, some (47, false)⟩,
  ⟨.mv (.t 49), some 50, some (47, false)⟩,
  ⟨.faddr 2 (.t 1), some 51, some (50, true)⟩,
  ⟨.load false 1 (.t 51), some 52, some (50, true)⟩,
  ⟨.mv (.t 3), some 53, some (50, true)⟩,
  ⟨.bin .sub .plain (.t 53) (.c (.p (.i .i64 1))), some 54, some (50, true)⟩,
  ⟨.iaddr 3 (.t 52) (.t 54), some 55, some (50, true)⟩,
  ⟨.faddr 0 (.t 55), some 56, some (50, true)⟩,
  ⟨.load false 1 (.t 56), some 57, some (50, true)⟩,
  ⟨.faddr 0 (.t 4), some 58, some (50, true)⟩,
  ⟨.load false 1 (.t 58), some 59, some (50, true)⟩,
  ⟨.bin .geq .plain (.t 57) (.t 59), some 60, some (50, true)⟩,
  ⟨.pick (.t 50) (.t 60) (.c (.p (.b false))), some 61, some (47, false)⟩,
  ⟨.pick (.t 47) (.c (.p (.b true))) (.t 61), some 62, none⟩])
 (.keep [1, 3, 4, 62] (.cond (.t 62)
 (.seq (.reg false [] [⟨.mv (.c (.p (.b false))), some 2, none⟩])
  (.ret))
 (.skip))))
 (.seq (.reg false [] [⟨.faddr 2 (.t 4), some 64, none⟩,
  ⟨.load false 1 (.t 64), some 65, none⟩,
  ⟨.faddr 0 (.t 4), some 66, none⟩,
  ⟨.load false 1 (.t 66), some 67, none⟩,
  ⟨.call J30 [(.t 65), (.t 67)] 0, some 68, none⟩,
  ⟨.mv (.t 68), some 63, none⟩,
  ⟨.extr (.t 63) 0, some 69, none⟩,
  ⟨.extr (.t 63) 1, some 70, none⟩,
  ⟨.newbox (J4 default), some 5, none⟩,
  ⟨.store 34 (.t 5) (.t 69), none, none⟩,
  ⟨.mv (.t 70), some 6, none⟩])
 (.keep [1, 3, 4, 5, 6] (.seq (.reg false [] [⟨.mv (.t 6), some 71, none⟩,
  ⟨.bin .neq .plain (.t 71) (.c (.p (.i .i64 0))), some 72, none⟩,
  ⟨.mv (.t 72), some 73, none⟩,
  ⟨.faddr 1 (.t 5), some 74, some (73, false)⟩,
  ⟨.load false 1 (.t 74), some 75, some (73, false)⟩,
  ⟨.faddr 1 (.t 4), some 76, some (73, false)⟩,
  ⟨.load false 1 (.t 76), some 77, some (73, false)⟩,
  ⟨.bin .neq .plain (.t 75) (.t 77), some 78, some (73, false)⟩,
  ⟨.pick (.t 73) (.c (.p (.b true))) (.t 78), some 79, none⟩])
 (.keep [1, 3, 79] (.cond (.t 79)
 (.seq (.reg false [] [⟨.mv (.c (.p (.b false))), some 2, none⟩])
  (.ret))
 (.skip))))))))))
 (.reg false [] [⟨.mv (.t 3), some 30, none⟩,
  ⟨.bin .add .plain (.t 30) (.c (.p (.i .i64 1))), some 31, none⟩,
  ⟨.mv (.t 31), some 3, none⟩]))
def J4r : Jj := .seq (.reg false [] [⟨.mv (.c (.p (.b true))), some 2, none⟩])
 (.ret)
def J1S : Jj := .seq (.reg false [] [⟨.box 3 (.t 0), some 1, none⟩,
  ⟨.mv (.c (.p (.b false))), some 2, none⟩])
 (.seq (.seq (.reg false [] [⟨.faddr 0 (.t 1), some 7, none⟩,
  ⟨.load false 1 (.t 7), some 8, none⟩,
  ⟨.bin .lss .plain (.t 8) (.c (.p (.i .i64 1))), some 9, none⟩,
  ⟨.mv (.t 9), some 10, none⟩,
  ⟨.faddr 0 (.t 1), some 11, some (10, false)⟩,
  ⟨.load false 1 (.t 11), some 12, some (10, false)⟩,
  ⟨.bin .gtr .plain (.t 12) (.c (.p (.i .i64 1073741824))), some 13, some (10, false)⟩,
  ⟨.pick (.t 10) (.c (.p (.b true))) (.t 13), some 14, none⟩,
  ⟨.mv (.t 14), some 15, none⟩,
  ⟨.faddr 1 (.t 1), some 16, some (15, false)⟩,
  ⟨.load false 1 (.t 16), some 17, some (15, false)⟩,
  ⟨.bin .lss .plain (.t 17) (.c (.p (.i .i64 1))), some 18, some (15, false)⟩,
  ⟨.pick (.t 15) (.c (.p (.b true))) (.t 18), some 19, none⟩,
  ⟨.mv (.t 19), some 20, none⟩,
  ⟨.faddr 1 (.t 1), some 21, some (20, false)⟩,
  ⟨.load false 1 (.t 21), some 22, some (20, false)⟩,
  ⟨.bin .gtr .plain (.t 22) (.c (.p (.i .i64 64))), some 23, some (20, false)⟩,
  ⟨.pick (.t 20) (.c (.p (.b true))) (.t 23), some 24, none⟩])
 (.keep [1, 24] (.cond (.t 24)
 (.seq (.reg false [] [⟨.mv (.c (.p (.b false))), some 2, none⟩])
  (.ret))
 (.skip))))
 (.seq (.tidy [2] (.seq (.reg false [] [⟨.mv (.c (.p (.i .i64 0))), some 3, none⟩])
 (.block 0 (.loop [1, 3] JJ))))
 (.keep [] J4r)))
def J2s : AFn := ⟨1, 80, J1S, [.tmp 2], false⟩
def J8l : Jj := .seq (.reg false [] [⟨.faddr 2 (.t 3), some 72, none⟩,
  ⟨.load false 1 (.t 72), some 73, none⟩,
  ⟨.mv (.t 13), some 74, none⟩,
  ⟨.iaddr 3 (.t 73) (.t 74), some 75, none⟩,
  ⟨.faddr 0 (.t 75), some 76, none⟩,
  ⟨.load false 1 (.t 76), some 77, none⟩,
  ⟨.mv (.t 1), some 78, none⟩,
  ⟨.bin .neq .plain (.t 77) (.t 78), some 79, none⟩])
 (.keep [1, 3, 6, 10, 11, 12, 13, 79] (.cond (.t 79)
 (.reg true [(1, 7)] [⟨.faddr 2 (.t 11), some 80, none⟩,
   ⟨.load false 1 (.t 80), some 81, none⟩,
   ⟨.faddr 2 (.t 3), some 82, none⟩,
   ⟨.load false 1 (.t 82), some 83, none⟩,
   ⟨.mv (.t 13), some 84, none⟩,
   ⟨.iaddr 3 (.t 83) (.t 84), some 85, none⟩,
   ⟨.load true 3 (.t 85), some 86, none⟩,
   ⟨.lits false 3 1 (J5 default) [(0, (.t 86))], some 87, none⟩,
   ⟨.app 3 32 (J5 default) (.t 81) (.t 87), some 88, none⟩,
   ⟨.faddr 2 (.t 11), some 89, none⟩,
   ⟨.store 1 (.t 89) (.t 88), none, none⟩])
 (.skip)))
def J9U : Jj := .reg false [] [⟨.mv (.t 13), some 52, none⟩,
  ⟨.bin .add .plain (.t 52) (.c (.p (.i .i64 1))), some 53, none⟩,
  ⟨.mv (.t 53), some 13, none⟩]
def J1b : Jj := .seq (.seq (.reg false [] [⟨.mv (.t 13), some 47, none⟩,
  ⟨.faddr 2 (.t 3), some 48, none⟩,
  ⟨.load false 1 (.t 48), some 49, none⟩,
  ⟨.len false (.t 49), some 50, none⟩,
  ⟨.bin .lss .plain (.t 47) (.t 50), some 51, none⟩])
 (.keep [1, 3, 6, 10, 11, 12, 13, 51] (.cond (.t 51)
 (.skip)
 (.exit 0))))
 (.seq (.block 1 (.seq (.seq (.reg false [] [⟨.mv (.t 12), some 54, none⟩,
  ⟨.un .not (.t 54), some 55, none⟩,
  ⟨.mv (.t 55), some 56, none⟩,
  ⟨.faddr 2 (.t 3), some 57, some (56, true)⟩,
  ⟨.load false 1 (.t 57), some 58, some (56, true)⟩,
  ⟨.mv (.t 13), some 59, some (56, true)⟩,
  ⟨.iaddr 3 (.t 58) (.t 59), some 60, some (56, true)⟩,
  ⟨.faddr 0 (.t 60), some 61, some (56, true)⟩,
  ⟨.load false 1 (.t 61), some 62, some (56, true)⟩,
  ⟨.mv (.t 1), some 63, some (56, true)⟩,
  ⟨.bin .geq .plain (.t 62) (.t 63), some 64, some (56, true)⟩,
  ⟨.pick (.t 56) (.t 64) (.c (.p (.b false))), some 65, none⟩])
 (.keep [1, 3, 6, 10, 11, 12, 13, 65] (.cond (.t 65)
 (.reg false [] [⟨.faddr 2 (.t 11), some 66, none⟩,
   ⟨.load false 1 (.t 66), some 67, none⟩,
   ⟨.load true 3 (.t 10), some 68, none⟩,
   ⟨.lits false 3 1 (J5 default) [(0, (.t 68))], some 69, none⟩,
   ⟨.app 3 32 (J5 default) (.t 67) (.t 69), some 70, none⟩,
   ⟨.faddr 2 (.t 11), some 71, none⟩,
   ⟨.store 1 (.t 71) (.t 70), none, none⟩,
   ⟨.mv (.c (.p (.b true))), some 12, none⟩])
 (.skip))))
 (.keep [1, 3, 6, 10, 11, 12, 13] J8l)))
 (.keep [1, 3, 6, 10, 11, 12, 13] J9U))
def JbS : Jj := .seq (.reg false [] [⟨.load true 3 (.t 11), some 98, none⟩,
  ⟨.store 3 (.t 6) (.t 98), none, none⟩,
  ⟨.mv (.c (.p (.i .i64 0))), some 7, none⟩])
 (.ret)
def J32 : Jj := .seq (.seq (.reg false [] [⟨.mv (.t 12), some 90, none⟩,
  ⟨.un .not (.t 90), some 91, none⟩])
 (.cond (.t 91)
 (.reg false [] [⟨.faddr 2 (.t 11), some 92, none⟩,
   ⟨.load false 1 (.t 92), some 93, none⟩,
   ⟨.load true 3 (.t 10), some 94, none⟩,
   ⟨.lits false 3 1 (J5 default) [(0, (.t 94))], some 95, none⟩,
   ⟨.app 3 32 (J5 default) (.t 93) (.t 95), some 96, none⟩,
   ⟨.faddr 2 (.t 11), some 97, none⟩,
   ⟨.store 1 (.t 97) (.t 96), none, none⟩])
 (.skip)))
 (.keep [6, 11] JbS)
def J2A : Jj := .seq (.reg false [] [⟨.box 3 (.t 0), some 3, none⟩,
  ⟨.newboxo (J3 default) [(2, 3)], some 6, none⟩,
  ⟨.mv (.c (.p (.i .i64 0))), some 7, none⟩])
 (.keep [1, 2, 3, 6] (.seq (.seq (.reg false [] [⟨.load true 3 (.t 3), some 14, none⟩,
  ⟨.call J4N [(.t 14)] 0, some 15, none⟩,
  ⟨.un .not (.t 15), some 16, none⟩])
 (.keep [1, 2, 3, 6, 16] (.cond (.t 16)
 (.seq (.reg false [] [⟨.buildo (J3 default) [] [(2, 3)], some 17, none⟩,
   ⟨.store 3 (.t 6) (.t 17), none, none⟩,
   ⟨.mv (.c (.p (.i .i64 43))), some 7, none⟩])
  (.ret))
 (.skip))))
 (.seq (.seq (.reg false [] [⟨.mv (.t 1), some 18, none⟩,
  ⟨.bin .lss .plain (.t 18) (.c (.p (.i .i64 0))), some 19, none⟩,
  ⟨.mv (.t 19), some 20, none⟩,
  ⟨.mv (.t 1), some 21, some (20, false)⟩,
  ⟨.faddr 1 (.t 3), some 22, some (20, false)⟩,
  ⟨.load false 1 (.t 22), some 23, some (20, false)⟩,
  ⟨.bin .geq .plain (.t 21) (.t 23), some 24, some (20, false)⟩,
  ⟨.pick (.t 20) (.c (.p (.b true))) (.t 24), some 25, none⟩])
 (.keep [1, 2, 3, 6, 25] (.cond (.t 25)
 (.seq (.reg false [] [⟨.buildo (J3 default) [] [(2, 3)], some 26, none⟩,
   ⟨.store 3 (.t 6) (.t 26), none, none⟩,
   ⟨.mv (.c (.p (.i .i64 1))), some 7, none⟩])
  (.ret))
 (.skip))))
 (.seq (.reg false [] [⟨.mv (.t 2), some 28, none⟩,
  ⟨.mv (.t 1), some 29, none⟩,
  ⟨.call J30 [(.t 28), (.t 29)] 0, some 30, none⟩,
  ⟨.mv (.t 30), some 27, none⟩,
  ⟨.extr (.t 27) 0, some 31, none⟩,
  ⟨.extr (.t 27) 1, some 32, none⟩,
  ⟨.newbox (J4 default), some 8, none⟩,
  ⟨.store 34 (.t 8) (.t 31), none, none⟩,
  ⟨.mv (.t 32), some 9, none⟩])
 (.keep [1, 2, 3, 6, 8, 9] (.seq (.seq (.reg false [] [⟨.mv (.t 9), some 33, none⟩,
  ⟨.bin .neq .plain (.t 33) (.c (.p (.i .i64 0))), some 34, none⟩])
 (.cond (.t 34)
 (.seq (.reg false [] [⟨.buildo (J3 default) [] [(2, 3)], some 35, none⟩,
   ⟨.mv (.t 9), some 36, none⟩,
   ⟨.store 3 (.t 6) (.t 35), none, none⟩,
   ⟨.mv (.t 36), some 7, none⟩])
  (.ret))
 (.skip)))
 (.seq (.reg false [] [⟨.mv (.t 1), some 37, none⟩,
  ⟨.faddr 1 (.t 8), some 38, none⟩,
  ⟨.load false 1 (.t 38), some 39, none⟩,
  ⟨.mv (.t 2), some 40, none⟩,
  ⟨.build (J5 default) [(0, 1, (.t 37)), (1, 1, (.t 39)), (2, 1, (.t 40))], some 41, none⟩,
  ⟨.newbox (J5 default), some 10, none⟩,
  ⟨.store 3 (.t 10) (.t 41), none, none⟩])
 (.keep [1, 3, 6, 10] (.seq (.reg false [] [⟨.faddr 0 (.t 3), some 42, none⟩,
  ⟨.load false 1 (.t 42), some 43, none⟩,
  ⟨.faddr 1 (.t 3), some 44, none⟩,
  ⟨.load false 1 (.t 44), some 45, none⟩,
  ⟨.buildo (J3 default) [(0, 1, (.t 43)), (1, 1, (.t 45))] [(2, 3)], some 46, none⟩,
  ⟨.newboxo (J3 default) [(2, 3)], some 11, none⟩,
  ⟨.store 3 (.t 11) (.t 46), none, none⟩])
 (.keep [1, 3, 6, 10, 11] (.seq (.reg false [] [⟨.mv (.c (.p (.b false))), some 12, none⟩])
 (.seq (.seq (.reg false [] [⟨.mv (.c (.p (.i .i64 0))), some 13, none⟩])
 (.block 0 (.loop [1, 3, 6, 10, 11, 12, 13] J1b)))
 (.keep [6, 10, 11, 12] J32)))))))))))))
def J25 : AFn := ⟨3, 99, J2A, [.cell 6 true 3, .tmp 7], false⟩
def J3P : Jj := .seq (.reg false [] [⟨.mv (.c (.p (.b false))), some 0, none⟩])
 (.seq (.reg false [] [⟨.build (J3 default) [(0, 1, (.c (.p (.i .i64 1)))), (1, 1, (.c (.p (.i .i64 1))))], some 4, none⟩,
  ⟨.call J0M [(.t 4)] 0, some 5, none⟩,
  ⟨.mv (.t 5), some 3, none⟩,
  ⟨.extr (.t 3) 0, some 6, none⟩,
  ⟨.extr (.t 3) 1, some 7, none⟩,
  ⟨.mv (.t 6), some 1, none⟩,
  ⟨.mv (.t 7), some 2, none⟩])
 (.keep [1, 2] (.seq (.reg false [] [⟨.mv (.t 2), some 8, none⟩,
  ⟨.bin .eql .plain (.t 8) (.c (.p (.i .i64 0))), some 9, none⟩,
  ⟨.mv (.t 9), some 10, none⟩,
  ⟨.mv (.t 1), some 11, some (10, true)⟩,
  ⟨.len true (.t 11), some 12, some (10, true)⟩,
  ⟨.bin .eql .plain (.t 12) (.c (.p (.i .i64 20))), some 13, some (10, true)⟩,
  ⟨.pick (.t 10) (.t 13) (.c (.p (.b false))), some 14, none⟩,
  ⟨.mv (.t 14), some 15, none⟩,
  ⟨.build (J3 default) [(0, 1, (.c (.p (.i .i64 1)))), (1, 1, (.c (.p (.i .i64 1))))], some 16, some (15, true)⟩,
  ⟨.call J4K [(.t 16)] 0, some 17, some (15, true)⟩,
  ⟨.pick (.t 15) (.t 17) (.c (.p (.b false))), some 18, none⟩,
  ⟨.mv (.t 18), some 0, none⟩])
 (.ret))))
def J6S : AFn := ⟨0, 19, J3P, [.tmp 0], false⟩
def Jbq : Jj := .reg false [] [⟨.mv (.t 4), some 18, none⟩,
  ⟨.bin .add .plain (.t 18) (.c (.p (.i .i64 1))), some 19, none⟩,
  ⟨.mv (.t 19), some 4, none⟩]
def J1a : Jj := .seq (.seq (.reg false [] [⟨.mv (.t 4), some 14, none⟩,
  ⟨.faddr 1 (.t 3), some 15, none⟩,
  ⟨.load false 1 (.t 15), some 16, none⟩,
  ⟨.bin .lss .plain (.t 14) (.t 16), some 17, none⟩])
 (.keep [0, 2, 3, 4, 17] (.cond (.t 17)
 (.skip)
 (.exit 0))))
 (.seq (.tidy [0, 2, 3, 4] (.block 1 (.seq (.seq (.reg false [] [⟨.mv (.t 0), some 20, none⟩,
  ⟨.call Jb [(.t 20), (.c (.p (.i .i64 4)))] 0, some 21, none⟩,
  ⟨.bin .eql .plain (.t 21) (.c (.p (.i .i64 0))), some 22, none⟩])
 (.keep [0, 2, 3, 4, 22] (.cond (.t 22)
 (.exit 1)
 (.skip))))
 (.seq (.reg true [(0, 4), (0, 9), (4, 9), (5, 9)] [⟨.load true 3 (.t 3), some 24, none⟩,
  ⟨.mv (.t 4), some 25, none⟩,
  ⟨.mv (.t 0), some 26, none⟩,
  ⟨.mv (.t 4), some 27, none⟩,
  ⟨.call J6t [(.t 26), (.t 27)] 0, some 28, none⟩,
  ⟨.call J7o [(.t 24), (.t 25), (.t 28)] 0, some 29, none⟩,
  ⟨.mv (.t 29), some 23, none⟩,
  ⟨.extr (.t 23) 0, some 30, none⟩,
  ⟨.extr (.t 23) 1, some 31, none⟩,
  ⟨.newbox (J3 default), some 5, none⟩,
  ⟨.store 3 (.t 5) (.t 30), none, none⟩,
  ⟨.mv (.t 31), some 6, none⟩])
 (.keep [0, 2, 3, 4, 5, 6] (.seq (.reg false [] [⟨.mv (.t 6), some 32, none⟩,
  ⟨.bin .eql .plain (.t 32) (.c (.p (.i .i64 0))), some 33, none⟩])
 (.cond (.t 33)
 (.reg false [] [⟨.load true 3 (.t 5), some 34, none⟩,
   ⟨.store 3 (.t 3) (.t 34), none, none⟩])
 (.skip))))))))
 (.keep [0, 2, 3, 4] Jbq))
def J46 : Jj := .seq (.reg false [] [⟨.load true 3 (.t 3), some 35, none⟩,
  ⟨.store 3 (.t 2) (.t 35), none, none⟩])
 (.ret)
def J93 : Jj := .seq (.reg false [] [⟨.newbox (J3 default), some 2, none⟩])
 (.seq (.reg false [] [⟨.mv (.t 0), some 7, none⟩,
  ⟨.call Jb [(.t 7), (.c (.p (.i .i64 5)))] 0, some 8, none⟩,
  ⟨.bin .add .plain (.c (.p (.i .i64 1))) (.t 8), some 9, none⟩,
  ⟨.mv (.t 0), some 10, none⟩,
  ⟨.call Jb [(.t 10), (.c (.p (.i .i64 6)))] 0, some 11, none⟩,
  ⟨.bin .add .plain (.c (.p (.i .i64 1))) (.t 11), some 12, none⟩,
  ⟨.build (J3 default) [(0, 1, (.t 9)), (1, 1, (.t 12))], some 13, none⟩,
  ⟨.newbox (J3 default), some 3, none⟩,
  ⟨.store 3 (.t 3) (.t 13), none, none⟩])
 (.keep [0, 2, 3] (.seq (.tidy [2, 3] (.seq (.reg false [] [⟨.mv (.c (.p (.i .i64 0))), some 4, none⟩])
 (.block 0 (.loop [0, 2, 3, 4] J1a))))
 (.keep [2, 3] J46))))
def J2o : AFn := ⟨1, 36, J93, [.cell 2 true 3], false⟩
def J2S : Jj := .seq (.seq (.reg false [] [⟨.mv (.t 6), some 23, none⟩,
  ⟨.faddr 2 (.t 1), some 24, none⟩,
  ⟨.load false 1 (.t 24), some 25, none⟩,
  ⟨.len false (.t 25), some 26, none⟩,
  ⟨.bin .lss .plain (.t 23) (.t 26), some 27, none⟩])
 (.keep [1, 5, 6, 27] (.cond (.t 27)
 (.skip)
 (.exit 0))))
 (.seq (.block 1 (.reg true [(7, 9), (7, 11), (7, 13)] [⟨.mv (.t 5), some 30, none⟩,
  ⟨.faddr 2 (.t 1), some 31, none⟩,
  ⟨.load false 1 (.t 31), some 32, none⟩,
  ⟨.mv (.t 6), some 33, none⟩,
  ⟨.iaddr 3 (.t 32) (.t 33), some 34, none⟩,
  ⟨.faddr 0 (.t 34), some 35, none⟩,
  ⟨.load false 1 (.t 35), some 36, none⟩,
  ⟨.call J14 [(.c (.p (.s []))), (.t 36), (.c (.p (.i .i64 2)))] 0, some 37, none⟩,
  ⟨.faddr 2 (.t 1), some 38, none⟩,
  ⟨.load false 1 (.t 38), some 39, none⟩,
  ⟨.mv (.t 6), some 40, none⟩,
  ⟨.iaddr 3 (.t 39) (.t 40), some 41, none⟩,
  ⟨.faddr 2 (.t 41), some 42, none⟩,
  ⟨.load false 1 (.t 42), some 43, none⟩,
  ⟨.bin .add .plain (.t 37) (.t 43), some 44, none⟩,
  ⟨.call J4J [(.t 44)] 0, some 45, none⟩,
  ⟨.bin .add .plain (.t 30) (.t 45), some 46, none⟩,
  ⟨.mv (.t 46), some 5, none⟩]))
 (.reg false [] [⟨.mv (.t 6), some 28, none⟩,
  ⟨.bin .add .plain (.t 28) (.c (.p (.i .i64 1))), some 29, none⟩,
  ⟨.mv (.t 29), some 6, none⟩]))
def J3U : Jj := .seq (.reg false [] [⟨.mv (.t 5), some 47, none⟩,
  ⟨.mv (.t 47), some 2, none⟩,
  ⟨.mv (.c (.p (.i .i64 0))), some 3, none⟩])
 (.ret)
def J5d : Jj := .seq (.reg false [] [⟨.box 3 (.t 0), some 1, none⟩,
  ⟨.mv (.c (.p (.s []))), some 2, none⟩,
  ⟨.mv (.c (.p (.i .i64 0))), some 3, none⟩])
 (.keep [1] (.seq (.seq (.reg false [] [⟨.load true 3 (.t 1), some 7, none⟩,
  ⟨.call J4N [(.t 7)] 0, some 8, none⟩,
  ⟨.un .not (.t 8), some 9, none⟩])
 (.keep [1, 9] (.cond (.t 9)
 (.seq (.reg false [] [⟨.mv (.c (.p (.s []))), some 2, none⟩,
   ⟨.mv (.c (.p (.i .i64 43))), some 3, none⟩])
  (.ret))
 (.skip))))
 (.seq (.reg false [] [⟨.faddr 0 (.t 1), some 10, none⟩,
  ⟨.load false 1 (.t 10), some 11, none⟩,
  ⟨.call J14 [(.c (.p (.s [80, 77, 73, 77]))), (.t 11), (.c (.p (.i .i64 4)))] 0, some 12, none⟩,
  ⟨.mv (.t 12), some 4, none⟩])
 (.keep [1, 4] (.seq (.reg false [] [⟨.mv (.t 4), some 13, none⟩,
  ⟨.faddr 1 (.t 1), some 14, none⟩,
  ⟨.load false 1 (.t 14), some 15, none⟩,
  ⟨.call J14 [(.t 13), (.t 15), (.c (.p (.i .i64 2)))] 0, some 16, none⟩,
  ⟨.mv (.t 16), some 4, none⟩])
 (.keep [1, 4] (.seq (.reg false [] [⟨.mv (.t 4), some 17, none⟩,
  ⟨.faddr 2 (.t 1), some 18, none⟩,
  ⟨.load false 1 (.t 18), some 19, none⟩,
  ⟨.len false (.t 19), some 20, none⟩,
  ⟨.call J14 [(.t 17), (.t 20), (.c (.p (.i .i64 2)))] 0, some 21, none⟩,
  ⟨.call J4J [(.t 21)] 0, some 22, none⟩,
  ⟨.mv (.t 22), some 5, none⟩])
 (.keep [1, 5] (.seq (.seq (.reg false [] [⟨.mv (.c (.p (.i .i64 0))), some 6, none⟩])
 (.block 0 (.loop [1, 5, 6] J2S)))
 (.keep [5] J3U))))))))))
def J20 : AFn := ⟨1, 48, J5d, [.tmp 2, .tmp 3], false⟩
def J0W : Jj := .seq (.seq (.reg false [] [⟨.mv (.t 9), some 45, none⟩,
  ⟨.mv (.t 8), some 46, none⟩,
  ⟨.bin .lss .plain (.t 45) (.t 46), some 47, none⟩])
 (.keep [0, 2, 5, 7, 8, 9, 47] (.cond (.t 47)
 (.skip)
 (.exit 0))))
 (.seq (.block 1 (.seq (.reg false [] [⟨.mv (.t 0), some 51, none⟩,
  ⟨.mv (.t 5), some 52, none⟩,
  ⟨.call J4g [(.t 51), (.t 52)] 0, some 53, none⟩,
  ⟨.mv (.t 53), some 50, none⟩,
  ⟨.extr (.t 50) 0, some 54, none⟩,
  ⟨.extr (.t 50) 1, some 55, none⟩,
  ⟨.extr (.t 50) 2, some 56, none⟩,
  ⟨.mv (.t 54), some 10, none⟩,
  ⟨.mv (.t 55), some 11, none⟩,
  ⟨.mv (.t 56), some 12, none⟩])
 (.keep [0, 2, 7, 8, 9, 10, 11, 12] (.seq (.seq (.reg false [] [⟨.mv (.t 12), some 57, none⟩,
  ⟨.bin .neq .plain (.t 57) (.c (.p (.i .i64 0))), some 58, none⟩])
 (.cond (.t 58)
 (.seq (.reg false [] [⟨.buildo (J3 default) [] [(2, 3)], some 59, none⟩,
   ⟨.mv (.t 12), some 60, none⟩,
   ⟨.store 3 (.t 2) (.t 59), none, none⟩,
   ⟨.mv (.t 60), some 3, none⟩])
  (.ret))
 (.skip)))
 (.seq (.seq (.reg false [] [⟨.mv (.t 10), some 61, none⟩,
  ⟨.len true (.t 61), some 62, none⟩,
  ⟨.bin .neq .plain (.t 62) (.c (.p (.i .i64 258))), some 63, none⟩])
 (.keep [0, 2, 7, 8, 9, 10, 11, 63] (.cond (.t 63)
 (.seq (.reg false [] [⟨.buildo (J3 default) [] [(2, 3)], some 64, none⟩,
   ⟨.store 3 (.t 2) (.t 64), none, none⟩,
   ⟨.mv (.c (.p (.i .i64 4))), some 3, none⟩])
  (.ret))
 (.skip))))
 (.seq (.reg true [(1, 5)] [⟨.mv (.t 10), some 65, none⟩,
  ⟨.call J2B [(.t 65), (.c (.p (.i .i64 0))), (.c (.p (.i .i64 2)))] 0, some 66, none⟩,
  ⟨.mv (.t 10), some 67, none⟩,
  ⟨.slice .str (.t 67) (some (.c (.p (.i .i64 2)))) none none, some 68, none⟩,
  ⟨.build (J5 default) [(0, 1, (.t 66)), (2, 1, (.t 68))], some 69, none⟩,
  ⟨.newbox (J5 default), some 13, none⟩,
  ⟨.store 3 (.t 13) (.t 69), none, none⟩])
 (.keep [0, 2, 7, 8, 9, 11, 13] (.seq (.reg false [] [⟨.faddr 2 (.t 13), some 71, none⟩,
  ⟨.load false 1 (.t 71), some 72, none⟩,
  ⟨.faddr 0 (.t 13), some 73, none⟩,
  ⟨.load false 1 (.t 73), some 74, none⟩,
  ⟨.call J30 [(.t 72), (.t 74)] 0, some 75, none⟩,
  ⟨.mv (.t 75), some 70, none⟩,
  ⟨.extr (.t 70) 0, some 76, none⟩,
  ⟨.extr (.t 70) 1, some 77, none⟩,
  ⟨.newbox (J4 default), some 14, none⟩,
  ⟨.store 34 (.t 14) (.t 76), none, none⟩,
  ⟨.mv (.t 77), some 15, none⟩])
 (.keep [0, 2, 7, 8, 9, 11, 13, 14] (.seq (.reg false [] [⟨.faddr 1 (.t 14), some 78, none⟩,
  ⟨.load false 1 (.t 78), some 79, none⟩,
  ⟨.faddr 1 (.t 13), some 80, none⟩,
  ⟨.store 1 (.t 80) (.t 79), none, none⟩])
 (.keep [0, 2, 7, 8, 9, 11, 13] (.reg false [] [⟨.faddr 2 (.t 7), some 81, none⟩,
  ⟨.load false 1 (.t 81), some 82, none⟩,
  ⟨.load true 3 (.t 13), some 83, none⟩,
  ⟨.lits false 3 1 (J5 default) [(0, (.t 83))], some 84, none⟩,
  ⟨.app 3 32 (J5 default) (.t 82) (.t 84), some 85, none⟩,
  ⟨.mv (.t 11), some 86, none⟩,
  ⟨.faddr 2 (.t 7), some 87, none⟩,
  ⟨.store 1 (.t 87) (.t 85), none, none⟩,
  ⟨.mv (.t 86), some 5, none⟩]))))))))))))
 (.reg false [] [⟨.mv (.t 9), some 48, none⟩,
  ⟨.bin .add .plain (.t 48) (.c (.p (.i .i64 1))), some 49, none⟩,
  ⟨.mv (.t 49), some 9, none⟩]))
def J1H : Jj := .seq (.seq (.reg false [] [⟨.mv (.t 5), some 88, none⟩,
  ⟨.mv (.t 0), some 89, none⟩,
  ⟨.len true (.t 89), some 90, none⟩,
  ⟨.bin .neq .plain (.t 88) (.t 90), some 91, none⟩])
 (.keep [2, 7, 91] (.cond (.t 91)
 (.seq (.reg false [] [⟨.buildo (J3 default) [] [(2, 3)], some 92, none⟩,
   ⟨.store 3 (.t 2) (.t 92), none, none⟩,
   ⟨.mv (.c (.p (.i .i64 4))), some 3, none⟩])
  (.ret))
 (.skip))))
 (.seq (.seq (.reg false [] [⟨.load true 3 (.t 7), some 93, none⟩,
  ⟨.call J4N [(.t 93)] 0, some 94, none⟩,
  ⟨.un .not (.t 94), some 95, none⟩])
 (.keep [2, 7, 95] (.cond (.t 95)
 (.seq (.reg false [] [⟨.buildo (J3 default) [] [(2, 3)], some 96, none⟩,
   ⟨.store 3 (.t 2) (.t 96), none, none⟩,
   ⟨.mv (.c (.p (.i .i64 43))), some 3, none⟩])
  (.ret))
 (.skip))))
 (.seq (.reg false [] [⟨.load true 3 (.t 7), some 97, none⟩,
  ⟨.store 3 (.t 2) (.t 97), none, none⟩,
  ⟨.mv (.c (.p (.i .i64 0))), some 3, none⟩])
 (.ret)))
def J19 : Jj := .seq (.reg false [] [⟨.newboxo (J3 default) [(2, 3)], some 2, none⟩,
  ⟨.mv (.c (.p (.i .i64 0))), some 3, none⟩])
 (.seq (.reg false [] [⟨.mv (.t 0), some 17, none⟩,
  ⟨.call J4g [(.t 17), (.c (.p (.i .i64 0)))] 0, some 18, none⟩,
  ⟨.mv (.t 18), some 16, none⟩,
  ⟨.extr (.t 16) 0, some 19, none⟩,
  ⟨.extr (.t 16) 1, some 20, none⟩,
  ⟨.extr (.t 16) 2, some 21, none⟩,
  ⟨.mv (.t 19), some 4, none⟩,
  ⟨.mv (.t 20), some 5, none⟩,
  ⟨.mv (.t 21), some 6, none⟩])
 (.keep [0, 2, 4, 5, 6] (.seq (.seq (.reg false [] [⟨.mv (.t 6), some 22, none⟩,
  ⟨.bin .neq .plain (.t 22) (.c (.p (.i .i64 0))), some 23, none⟩])
 (.cond (.t 23)
 (.seq (.reg false [] [⟨.buildo (J3 default) [] [(2, 3)], some 24, none⟩,
   ⟨.mv (.t 6), some 25, none⟩,
   ⟨.store 3 (.t 2) (.t 24), none, none⟩,
   ⟨.mv (.t 25), some 3, none⟩])
  (.ret))
 (.skip)))
 (.seq (.seq (.reg false [] [⟨.mv (.t 4), some 26, none⟩,
  ⟨.len true (.t 26), some 27, none⟩,
  ⟨.bin .neq .plain (.t 27) (.c (.p (.i .i64 12))), some 28, none⟩,
  ⟨.mv (.t 28), some 29, none⟩,
  ⟨.mv (.t 4), some 30, some (29, false)⟩,
  ⟨.slice .str (.t 30) none (some (.c (.p (.i .i64 4)))) none, some 31, some (29, false)⟩,
  ⟨.bin .neq .plain (.t 31) (.c (.p (.s [80, 77, 73, 77]))), some 32, some (29, false)⟩,
  ⟨.pick (.t 29) (.c (.p (.b true))) (.t 32), some 33, none⟩])
 (.keep [0, 2, 4, 5, 33] (.cond (.t 33)
 (.seq (.reg false [] [⟨.buildo (J3 default) [] [(2, 3)], some 34, none⟩,
   ⟨.store 3 (.t 2) (.t 34), none, none⟩,
   ⟨.mv (.c (.p (.i .i64 4))), some 3, none⟩])
  (.ret))
 (.skip))))
 (.seq (.reg false [] [⟨.mv (.t 4), some 35, none⟩,
  ⟨.call J2B [(.t 35), (.c (.p (.i .i64 4))), (.c (.p (.i .i64 4)))] 0, some 36, none⟩,
  ⟨.mv (.t 4), some 37, none⟩,
  ⟨.call J2B [(.t 37), (.c (.p (.i .i64 8))), (.c (.p (.i .i64 2)))] 0, some 38, none⟩,
  ⟨.buildo (J3 default) [(0, 1, (.t 36)), (1, 1, (.t 38))] [(2, 3)], some 39, none⟩,
  ⟨.newboxo (J3 default) [(2, 3)], some 7, none⟩,
  ⟨.store 3 (.t 7) (.t 39), none, none⟩])
 (.keep [0, 2, 4, 5, 7] (.seq (.reg false [] [⟨.mv (.t 4), some 40, none⟩,
  ⟨.call J2B [(.t 40), (.c (.p (.i .i64 10))), (.c (.p (.i .i64 2)))] 0, some 41, none⟩,
  ⟨.mv (.t 41), some 8, none⟩])
 (.keep [0, 2, 5, 7, 8] (.seq (.seq (.reg false [] [⟨.mv (.t 8), some 42, none⟩,
  ⟨.bin .gtr .plain (.t 42) (.c (.p (.i .i64 64))), some 43, none⟩])
 (.cond (.t 43)
 (.seq (.reg false [] [⟨.buildo (J3 default) [] [(2, 3)], some 44, none⟩,
   ⟨.store 3 (.t 2) (.t 44), none, none⟩,
   ⟨.mv (.c (.p (.i .i64 4))), some 3, none⟩])
  (.ret))
 (.skip)))
 (.seq (.tidy [0, 2, 3, 5, 7] (.seq (.reg false [] [⟨.mv (.c (.p (.i .i64 0))), some 9, none⟩])
 (.block 0 (.loop [0, 2, 5, 7, 8, 9] J0W))))
 (.keep [0, 2, 5, 7] J1H)))))))))))
def J1X : AFn := ⟨1, 98, J19, [.cell 2 true 3, .tmp 3], false⟩
def J08 : Jj := .seq (.reg false [] [⟨.bin .lss .plain (.t 41) (.t 40), some 42, none⟩])
 (.seq (.cond (.t 42)
 (.skip)
 (.exit 0))
 (.seq (.block 1 (.seq (.reg false [] [⟨.iaddr 3 (.t 39) (.t 41), some 43, none⟩,
  ⟨.load true 3 (.t 43), some 44, none⟩,
  ⟨.newbox (J3 default), some 8, none⟩,
  ⟨.store 3 (.t 8) (.t 44), none, none⟩])
 (.keep [1, 5, 6, 8, 39, 40, 41] (.seq (.reg false [] [⟨.load true 3 (.t 8), some 46, none⟩,
  ⟨.call J0M [(.t 46)] 0, some 47, none⟩,
  ⟨.mv (.t 47), some 45, none⟩,
  ⟨.extr (.t 45) 0, some 48, none⟩,
  ⟨.extr (.t 45) 1, some 49, none⟩,
  ⟨.mv (.t 48), some 9, none⟩,
  ⟨.mv (.t 49), some 10, none⟩])
 (.keep [1, 5, 6, 8, 9, 10, 39, 40, 41] (.seq (.reg false [] [⟨.load true 3 (.t 8), some 51, none⟩,
  ⟨.call J5j [(.t 51)] 0, some 52, none⟩,
  ⟨.mv (.t 52), some 50, none⟩,
  ⟨.extr (.t 50) 0, some 53, none⟩,
  ⟨.extr (.t 50) 1, some 54, none⟩,
  ⟨.mv (.t 53), some 11, none⟩,
  ⟨.mv (.t 54), some 12, none⟩])
 (.keep [1, 5, 6, 9, 10, 11, 12, 39, 40, 41] (.seq (.reg false [] [⟨.mv (.t 10), some 55, none⟩,
  ⟨.mv (.t 12), some 56, none⟩,
  ⟨.bin .neq .plain (.t 55) (.t 56), some 57, none⟩,
  ⟨.mv (.t 57), some 58, none⟩,
  ⟨.mv (.t 9), some 59, some (58, false)⟩,
  ⟨.mv (.t 11), some 60, some (58, false)⟩,
  ⟨.bin .neq .plain (.t 59) (.t 60), some 61, some (58, false)⟩,
  ⟨.pick (.t 58) (.c (.p (.b true))) (.t 61), some 62, none⟩])
 (.keep [1, 5, 6, 39, 40, 41, 62] (.cond (.t 62)
 (.seq (.reg false [] [⟨.mv (.c (.p (.b false))), some 4, none⟩])
  (.ret))
 (.skip)))))))))))
 (.reg false [] [⟨.bin .add .plain (.t 41) (.c (.p (.i .i64 1))), some 63, none⟩,
  ⟨.mv (.t 63), some 41, none⟩])))
def J09 : Jj := .seq (.reg false [] [⟨.bin .lss .plain (.t 84) (.t 83), some 85, none⟩])
 (.seq (.cond (.t 85)
 (.skip)
 (.exit 2))
 (.seq (.block 3 (.seq (.reg false [] [⟨.iaddr 1 (.t 82) (.t 84), some 86, none⟩,
  ⟨.load false 1 (.t 86), some 87, none⟩,
  ⟨.mv (.t 87), some 16, none⟩])
 (.keep [16, 82, 83, 84] (.seq (.reg false [] [⟨.mv (.t 16), some 89, none⟩,
  ⟨.call J6a [(.t 89)] 0, some 90, none⟩,
  ⟨.mv (.t 90), some 88, none⟩,
  ⟨.extr (.t 88) 0, some 91, none⟩,
  ⟨.extr (.t 88) 1, some 92, none⟩,
  ⟨.newbox (J3 default), some 17, none⟩,
  ⟨.store 3 (.t 17) (.t 91), none, none⟩,
  ⟨.mv (.t 92), some 18, none⟩])
 (.keep [16, 17, 18, 82, 83, 84] (.seq (.reg false [] [⟨.mv (.t 16), some 94, none⟩,
  ⟨.call J6i [(.t 94)] 0, some 95, none⟩,
  ⟨.mv (.t 95), some 93, none⟩,
  ⟨.extr (.t 93) 0, some 96, none⟩,
  ⟨.extr (.t 93) 1, some 97, none⟩,
  ⟨.newbox (J3 default), some 19, none⟩,
  ⟨.store 3 (.t 19) (.t 96), none, none⟩,
  ⟨.mv (.t 97), some 20, none⟩])
 (.keep [17, 18, 19, 20, 82, 83, 84] (.seq (.reg false [] [⟨.mv (.t 18), some 98, none⟩,
  ⟨.mv (.t 20), some 99, none⟩,
  ⟨.bin .neq .plain (.t 98) (.t 99), some 100, none⟩,
  ⟨.mv (.t 100), some 101, none⟩,
  ⟨.load true 3 (.t 17), some 102, some (101, false)⟩,
  ⟨.load true 3 (.t 19), some 103, some (101, false)⟩,
  ⟨.call J7N [(.t 102), (.t 103)] 0, some 104, some (101, false)⟩,
  ⟨.un .not (.t 104), some 105, some (101, false)⟩,
  ⟨.pick (.t 101) (.c (.p (.b true))) (.t 105), some 106, none⟩])
 (.keep [82, 83, 84, 106] (.cond (.t 106)
 (.seq (.reg false [] [⟨.mv (.c (.p (.b false))), some 4, none⟩])
  (.ret))
 (.skip)))))))))))
 (.reg false [] [⟨.bin .add .plain (.t 84) (.c (.p (.i .i64 1))), some 107, none⟩,
  ⟨.mv (.t 107), some 84, none⟩])))
def J2j : Jj := .seq (.reg false [] [⟨.mv (.c (.p (.b true))), some 4, none⟩])
 (.ret)
def J2e : Jj := .seq (.reg false [] [⟨.load true 3 (.t 6), some 65, none⟩,
  ⟨.call J5j [(.t 65)] 0, some 66, none⟩,
  ⟨.mv (.t 66), some 64, none⟩,
  ⟨.extr (.t 64) 0, some 67, none⟩,
  ⟨.extr (.t 64) 1, some 68, none⟩,
  ⟨.mv (.t 67), some 13, none⟩,
  ⟨.mv (.t 68), some 14, none⟩])
 (.keep [1, 5, 13] (.seq (.tidy [4] (.seq (.reg true [] [⟨.mv (.t 13), some 69, none⟩,
  ⟨.mv (.t 5), some 70, none⟩,
  ⟨.mv (.t 13), some 71, none⟩,
  ⟨.call J1O [(.t 70), (.t 71)] 0, some 72, none⟩,
  ⟨.mv (.t 13), some 73, none⟩,
  ⟨.mv (.t 1), some 74, none⟩,
  ⟨.bin .add .plain (.t 73) (.t 74), some 75, none⟩,
  ⟨.mv (.t 1), some 76, none⟩,
  ⟨.mv (.t 13), some 77, none⟩,
  ⟨.mv (.t 13), some 78, none⟩,
  ⟨.len true (.t 78), some 79, none⟩,
  ⟨.bin .quo .plain (.t 79) (.c (.p (.i .i64 2))), some 80, none⟩,
  ⟨.slice .str (.t 77) none (some (.t 80)) none, some 81, none⟩,
  ⟨.lits false 1 5 [(.s [])] [(0, (.t 69)), (1, (.t 72)), (2, (.t 75)), (3, (.t 76)), (4, (.t 81))], some 82, none⟩,
  ⟨.len false (.t 82), some 83, none⟩,
  ⟨.mv (.c (.p (.i .i64 0))), some 84, none⟩])
 (.keep [82, 83, 84] (.block 2 (.loop [82, 83, 84] J09)))))
 (.keep [] J2j)))
def J1B : Jj := .seq (.reg false [] [⟨.mv (.c (.p (.b false))), some 4, none⟩])
 (.seq (.seq (.reg false [] [⟨.call J6U [] 0, some 21, none⟩,
  ⟨.un .not (.t 21), some 22, none⟩,
  ⟨.mv (.t 22), some 23, none⟩,
  ⟨.mv (.t 1), some 24, some (23, false)⟩,
  ⟨.len true (.t 24), some 25, some (23, false)⟩,
  ⟨.bin .gtr .plain (.t 25) (.c (.p (.i .i64 2000))), some 26, some (23, false)⟩,
  ⟨.pick (.t 23) (.c (.p (.b true))) (.t 26), some 27, none⟩])
 (.keep [0, 1, 27] (.cond (.t 27)
 (.seq (.reg false [] [⟨.mv (.t 1), some 28, none⟩,
   ⟨.len true (.t 28), some 29, none⟩,
   ⟨.bin .gtr .plain (.t 29) (.c (.p (.i .i64 2000))), some 30, none⟩,
   ⟨.mv (.t 30), some 4, none⟩])
  (.ret))
 (.skip))))
 (.seq (.reg false [] [⟨.mv (.t 0), some 31, none⟩,
  ⟨.call J9s [(.t 31), (.c (.p (.i .i64 400)))] 1, some 32, none⟩,
  ⟨.mv (.t 32), some 5, none⟩])
 (.keep [1, 5] (.seq (.reg false [] [⟨.mv (.t 5), some 33, none⟩,
  ⟨.call J7R [(.t 33)] 0, some 34, none⟩,
  ⟨.newbox (J3 default), some 6, none⟩,
  ⟨.store 3 (.t 6) (.t 34), none, none⟩])
 (.keep [1, 5, 6] (.seq (.tidy [1, 4, 5, 6] (.seq (.reg true [(0, 3)] [⟨.load true 3 (.t 6), some 35, none⟩,
  ⟨.mv (.t 5), some 36, none⟩,
  ⟨.load true 3 (.t 6), some 37, none⟩,
  ⟨.call J7p [(.t 36), (.t 37)] 0, some 38, none⟩,
  ⟨.lits false 3 2 (J3 default) [(0, (.t 35)), (1, (.t 38))], some 39, none⟩,
  ⟨.len false (.t 39), some 40, none⟩,
  ⟨.mv (.c (.p (.i .i64 0))), some 41, none⟩])
 (.keep [1, 5, 6, 39, 40, 41] (.block 0 (.loop [1, 5, 6, 39, 40, 41] J08)))))
 (.keep [1, 5, 6] J2e)))))))
def JU : AFn := ⟨2, 108, J1B, [.tmp 4], false⟩
theorem JqP : J8g.res = [.tmp 4] ∧ J8g.fresh = false := ⟨rfl, rfl⟩
theorem J90 : J2X.res = [.tmp 4] ∧ J2X.fresh = false := ⟨rfl, rfl⟩
theorem J7y : J4D.res = [.tmp 4] ∧ J4D.fresh = false := ⟨rfl, rfl⟩
theorem JgV : J0K.res = [.tmp 2] ∧ J0K.fresh = false := ⟨rfl, rfl⟩
theorem JhN : J0D.res = [.tmp 2] ∧ J0D.fresh = false := ⟨rfl, rfl⟩
theorem Ja3 : J58.res = [.tmp 2] ∧ J58.fresh = false := ⟨rfl, rfl⟩
theorem JdO : J3G.res = [.tmp 6] ∧ J3G.fresh = false := ⟨rfl, rfl⟩
theorem J8K : J3B.res = [.tmp 6, .tmp 7] ∧ J3B.fresh = false := ⟨rfl, rfl⟩
theorem Jc6 : J4y.res = [.cell 2 true 2] ∧ J4y.fresh = false := ⟨rfl, rfl⟩
theorem Jmk : J74.res = [.tmp 2] ∧ J74.fresh = false := ⟨rfl, rfl⟩
theorem Jpa : J10.res = [.tmp 2] ∧ J10.fresh = false := ⟨rfl, rfl⟩
theorem JaO : J2Y.res = [.tmp 2] ∧ J2Y.fresh = false := ⟨rfl, rfl⟩
theorem J8W : J5A.res = [.tmp 2] ∧ J5A.fresh = false := ⟨rfl, rfl⟩
theorem J6u : J0B.res = [.tmp 4] ∧ J0B.fresh = false := ⟨rfl, rfl⟩
theorem J8L : J3H.res = [.tmp 6, .tmp 7] ∧ J3H.fresh = false := ⟨rfl, rfl⟩
theorem JoU : J8F.res = [.cell 2 true 34] ∧ J8F.fresh = false := ⟨rfl, rfl⟩
theorem Jgm : J7V.res = [.tmp 2] ∧ J7V.fresh = false := ⟨rfl, rfl⟩
theorem Jr7 : J9t.res = [.cell 2 true 34] ∧ J9t.fresh = false := ⟨rfl, rfl⟩
theorem Jgy : JS.res = [.cell 0 true 16] ∧ JS.fresh = false := ⟨rfl, rfl⟩
theorem J9B : J4x.res = [.tmp 2] ∧ J4x.fresh = false := ⟨rfl, rfl⟩
theorem Jn0 : J6Y.res = [.tmp 6] ∧ J6Y.fresh = false := ⟨rfl, rfl⟩
theorem JhX : J3F.res = [.cell 2 true 34, .tmp 3] ∧ J3F.fresh = false := ⟨rfl, rfl⟩
theorem J6C : J3r.res = [.tmp 4] ∧ J3r.fresh = false := ⟨rfl, rfl⟩
theorem JhM : J0C.res = [.cell 4 true 34] ∧ J0C.fresh = false := ⟨rfl, rfl⟩
theorem JmN : J6X.res = [.tmp 0] ∧ J6X.fresh = false := ⟨rfl, rfl⟩
theorem JnS : J7z.res = [.tmp 0] ∧ J7z.fresh = false := ⟨rfl, rfl⟩
theorem Jff : J6N.res = [.tmp 2] ∧ J6N.fresh = false := ⟨rfl, rfl⟩
theorem JfR : J3w.res = [.tmp 4] ∧ J3w.fresh = false := ⟨rfl, rfl⟩
theorem J4m : J5D.res = [.tmp 4, .tmp 5, .tmp 6] ∧ J5D.fresh = false := ⟨rfl, rfl⟩
theorem JkR : J6g.res = [.tmp 6] ∧ J6g.fresh = false := ⟨rfl, rfl⟩
theorem JbT : J6F.res = [.tmp 2] ∧ J6F.fresh = false := ⟨rfl, rfl⟩
theorem JfQ : J2K.res = [] ∧ J2K.fresh = false := ⟨rfl, rfl⟩
theorem JpG : J3z.res = [.tmp 2] ∧ J3z.fresh = false := ⟨rfl, rfl⟩
theorem JbQ : J2t.res = [.tmp 2] ∧ J2t.fresh = false := ⟨rfl, rfl⟩
theorem J8I : J8J.res = [.cell 4 true 3] ∧ J8J.fresh = false := ⟨rfl, rfl⟩
theorem JbX : J2p.res = [.tmp 2, .tmp 3] ∧ J2p.fresh = false := ⟨rfl, rfl⟩
theorem JfD : J70.res = [.tmp 2] ∧ J70.fresh = false := ⟨rfl, rfl⟩
theorem J4k : J5w.res = [.tmp 4, .tmp 5, .tmp 6] ∧ J5w.fresh = false := ⟨rfl, rfl⟩
theorem JbW : J73.res = [.tmp 2] ∧ J73.fresh = false := ⟨rfl, rfl⟩
theorem J4O : J6P.res = [.cell 2 true 34, .tmp 3] ∧ J6P.fresh = false := ⟨rfl, rfl⟩
theorem Je0 : J16.res = [.tmp 2, .tmp 3] ∧ J16.fresh = false := ⟨rfl, rfl⟩
theorem JcY : J7F.res = [.tmp 4] ∧ J7F.fresh = false := ⟨rfl, rfl⟩
theorem J7f : J5C.res = [.cell 4 true 34, .tmp 5] ∧ J5C.fresh = false := ⟨rfl, rfl⟩
theorem J4b : J1s.res = [.cell 2 true 34, .tmp 3] ∧ J1s.fresh = false := ⟨rfl, rfl⟩
theorem J1R : J2m.res = [.tmp 2] ∧ J2m.fresh = false := ⟨rfl, rfl⟩
theorem Jit : J5b.res = [.cell 2 true 3] ∧ J5b.fresh = false := ⟨rfl, rfl⟩
theorem J57 : J5c.res = [.cell 4 true 34, .tmp 5] ∧ J5c.fresh = false := ⟨rfl, rfl⟩
theorem J37 : J1U.res = [.cell 2 true 3, .tmp 3] ∧ J1U.fresh = false := ⟨rfl, rfl⟩
theorem J1T : J2s.res = [.tmp 2] ∧ J2s.fresh = false := ⟨rfl, rfl⟩
theorem J9I : J25.res = [.cell 6 true 3, .tmp 7] ∧ J25.fresh = false := ⟨rfl, rfl⟩
theorem JbL : J6S.res = [.tmp 0] ∧ J6S.fresh = false := ⟨rfl, rfl⟩
theorem Jnq : J2o.res = [.cell 2 true 3] ∧ J2o.fresh = false := ⟨rfl, rfl⟩
theorem Jep : J20.res = [.tmp 2, .tmp 3] ∧ J20.fresh = false := ⟨rfl, rfl⟩
theorem J3b : J1X.res = [.cell 2 true 3, .tmp 3] ∧ J1X.fresh = false := ⟨rfl, rfl⟩
theorem J2P : JU.res = [.tmp 4] ∧ JU.fresh = false := ⟨rfl, rfl⟩
def fns : List (FuncId × AFn) := [(J9s, J8g), (J7N, J2X), (Jb, J4D), (J40, J0K), (J4F, J0D), (J2Z, J58), (J14, J3G), (J31, J3B), (J4w, J4y), (J3L, J74), (J5p, J10), (J7M, J2Y), (J5x, J5A), (J0w, J0B), (J3D, J3H), (J8z, J8F), (J6q, J7V), (J9x, J9t), (J47, JS), (Jag, Jd7), (J4C, J4x), (J3M, J6Y), (J8y, J3F), (J1O, J3r), (J4A, J0C), (J5Q, J6X), (J7O, J7z), (J4J, J6N), (J3t, J3w), (J4g, J5D), (J2B, J6g), (J6J, J6F), (J0Q, J2K), (J4c, J3z), (J1m, J35), (JbV, JfF), (J6V, J2t), (J7p, J8J), (J6L, J2p), (J9P, J70), (J4o, J5w), (J6I, J73), (J72, J6P), (J5l, J16), (J6t, J7F), (J3o, J5C), (J68, J1s), (J4K, J2m), (J3Z, J5b), (J30, J5c), (J6a, J1U), (Ji7, JhU), (J4N, J2s), (J7o, J25), (J6U, J6S), (J7R, J2o), (J5j, J20), (J6i, J1X), (J79, JU)]
def Jkh : List (FuncId × Jcz) := [(J3T, J6z)]
def Jk8 : List (FuncId × (List AV → List Blk → Option Res)) := [(J1p, Jo5), (J2k, Jnz), (J67, (JqV 3 32))]
def lkF {α : Type} (f : FuncId) : List (FuncId × α) → Option α
 | [] => none
 | (g, a) :: r => if f = g then some a else lkF f r
def J1 (prims : FuncId → Option (List AV → List Blk → Option Res)) : J5M := fun f => Jtm (lkF f fns) (lkF f Jkh) (lkF f Jk8) (prims f)
theorem Jr0 (p) : J1 p J9s = some (.fn J8g) := rfl
theorem JnF (p) : J1 p J7N = some (.fn J2X) := rfl
theorem JhB (p) : J1 p Jb = some (.fn J4D) := rfl
theorem JgC (p) : J1 p J40 = some (.fn J0K) := rfl
theorem JhA (p) : J1 p J4F = some (.fn J0D) := rfl
theorem Jii (p) : J1 p J2Z = some (.fn J58) := rfl
theorem Jpd (p) : J1 p J14 = some (.fn J3G) := rfl
theorem Jpf (p) : J1 p J31 = some (.fn J3B) := rfl
theorem Jhr (p) : J1 p J4w = some (.fn J4y) := rfl
theorem JmH (p) : J1 p J3L = some (.fn J74) := rfl
theorem JpI (p) : J1 p J5p = some (.fn J10) := rfl
theorem Jo7 (p) : J1 p J7M = some (.fn J2Y) := rfl
theorem Jkq (p) : J1 p J5x = some (.fn J5A) := rfl
theorem Jac (p) : J1 p J0w = some (.fn J0B) := rfl
theorem Jpe (p) : J1 p J3D = some (.fn J3H) := rfl
theorem Jp9 (p) : J1 p J8z = some (.fn J8F) := rfl
theorem Jok (p) : J1 p J6q = some (.fn J7V) := rfl
theorem JqO (p) : J1 p J9x = some (.fn J9t) := rfl
theorem Jgb (p) : J1 p J47 = some (.fn JS) := rfl
theorem JhE (p) : J1 p J4C = some (.fn J4x) := rfl
theorem Jmr (p) : J1 p J3M = some (.fn J6Y) := rfl
theorem Jpo (p) : J1 p J8y = some (.fn J3F) := rfl
theorem JfL (p) : J1 p J1O = some (.fn J3r) := rfl
theorem Jhm (p) : J1 p J4A = some (.fn J0C) := rfl
theorem JmQ (p) : J1 p J5Q = some (.fn J6X) := rfl
theorem Jo2 (p) : J1 p J7O = some (.fn J7z) := rfl
theorem Jn3 (p) : J1 p J4J = some (.fn J6N) := rfl
theorem JfT (p) : J1 p J3t = some (.fn J3w) := rfl
theorem JjO (p) : J1 p J4g = some (.fn J5D) := rfl
theorem Jll (p) : J1 p J2B = some (.fn J6g) := rfl
theorem Jmm (p) : J1 p J6J = some (.fn J6F) := rfl
theorem JfU (p) : J1 p J0Q = some (.fn J2K) := rfl
theorem Jpy (p) : J1 p J4c = some (.fn J3z) := rfl
theorem JmO (p) : J1 p J6V = some (.fn J2t) := rfl
theorem Jpu (p) : J1 p J7p = some (.fn J8J) := rfl
theorem JmT (p) : J1 p J6L = some (.fn J2p) := rfl
theorem JmJ (p) : J1 p J9P = some (.fn J70) := rfl
theorem Jjx (p) : J1 p J4o = some (.fn J5w) := rfl
theorem JmM (p) : J1 p J6I = some (.fn J73) := rfl
theorem JmS (p) : J1 p J72 = some (.fn J6P) := rfl
theorem Jlt (p) : J1 p J5l = some (.fn J16) := rfl
theorem JnU (p) : J1 p J6t = some (.fn J7F) := rfl
theorem JjV (p) : J1 p J3o = some (.fn J5C) := rfl
theorem JkQ (p) : J1 p J68 = some (.fn J1s) := rfl
theorem Jmv (p) : J1 p J4K = some (.fn J2m) := rfl
theorem JiN (p) : J1 p J3Z = some (.fn J5b) := rfl
theorem Jjg (p) : J1 p J30 = some (.fn J5c) := rfl
theorem Jla (p) : J1 p J6a = some (.fn J1U) := rfl
theorem Jmx (p) : J1 p J4N = some (.fn J2s) := rfl
theorem JpL (p) : J1 p J7o = some (.fn J25) := rfl
theorem Jmo (p) : J1 p J6U = some (.fn J6S) := rfl
theorem Jol (p) : J1 p J7R = some (.fn J2o) := rfl
theorem Jls (p) : J1 p J5j = some (.fn J20) := rfl
theorem Jlo (p) : J1 p J6i = some (.fn J1X) := rfl
theorem Jgg (p) : J1 p J79 = some (.fn JU) := rfl
theorem Jpr (p) : J1 p J1p = some (.prim Jo5) := rfl
theorem JiW (p) : J1 p J2k = some (.prim Jnz) := rfl
end Go.Am
end
