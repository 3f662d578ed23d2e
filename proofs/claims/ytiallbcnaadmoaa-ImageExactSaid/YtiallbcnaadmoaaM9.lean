/-
  Parts of a proof.
-/
import Derived.Test.YtiallbcnaadmoaaM6
import Derived.Test.YtiallbcnaadmoaaM7
import Derived.Test.YtiallbcnaadmoaaM8
set_option linter.unusedSimpArgs false
set_option linter.unusedVariables false
section
namespace Go.Am
set_option maxRecDepth 8000
set_option maxHeartbeats 4000000
set_option linter.unusedSimpArgs false
set_option linter.unusedVariables false
structure T_api_Copy where
 Page : Int
 LSN : Int
 Data : List UInt8
 deriving DecidableEq
instance : Inhabited T_api_Copy := ⟨⟨0, 0, []⟩⟩
def J4 (x : T_api_Copy) : List PV := (cat [.i .i64 x.Page] (cat [.i .i64 x.LSN] [.s x.Data]))
theorem JaZ (x : T_api_Copy) : (J4 x).length = 3 := by
 simp only [cat, J4, List.length_append, List.length_cons, List.length_nil]
theorem Jhp (x : T_api_Copy) : sub (J4 x) 0 1 = some [.i .i64 x.Page] := by unfold J4; exact J9y rfl
theorem Jhx (x : T_api_Copy) (y : Int) : spl (J4 x) 0 [.i .i64 y] = some (J4 ⟨y, x.LSN, x.Data⟩) := by unfold J4; exact J9t rfl
theorem JiI (x : T_api_Copy) : sub (J4 x) 1 1 = some [.i .i64 x.LSN] := by
 have e0 : J4 x = cat [.i .i64 x.Page] (cat [.i .i64 x.LSN] [.s x.Data]) := by unfold J4; simp only [cat, List.append_assoc]
 rw [e0]; exact JbN (by simp only [cat, List.length_append, List.length_cons, List.length_nil]) rfl
theorem Jih (x : T_api_Copy) (y : Int) : spl (J4 x) 1 [.i .i64 y] = some (J4 ⟨x.Page, y, x.Data⟩) := by
 have e0 : J4 x = cat [.i .i64 x.Page] (cat [.i .i64 x.LSN] [.s x.Data]) := by unfold J4; simp only [cat, List.append_assoc]
 have e1 : J4 ⟨x.Page, y, x.Data⟩ = cat [.i .i64 x.Page] (cat [.i .i64 y] [.s x.Data]) := by unfold J4; simp only [cat, List.append_assoc]
 rw [e0, e1]; exact JbQ (by simp only [cat, List.length_append, List.length_cons, List.length_nil]) rfl
theorem Jhl (x : T_api_Copy) : sub (J4 x) 2 1 = some [.s x.Data] := by
 have e0 : J4 x = cat (cat [.i .i64 x.Page] [.i .i64 x.LSN]) [.s x.Data] := by unfold J4; simp only [cat, List.append_assoc]
 rw [e0]; exact JaT (by simp only [cat, List.length_append, List.length_cons, List.length_nil]) rfl
theorem JhC (x : T_api_Copy) (y : List UInt8) : spl (J4 x) 2 [.s y] = some (J4 ⟨x.Page, x.LSN, y⟩) := by
 have e0 : J4 x = cat (cat [.i .i64 x.Page] [.i .i64 x.LSN]) [.s x.Data] := by unfold J4; simp only [cat, List.append_assoc]
 have e1 : J4 ⟨x.Page, x.LSN, y⟩ = cat (cat [.i .i64 x.Page] [.i .i64 x.LSN]) [.s y] := by unfold J4; simp only [cat, List.append_assoc]
 rw [e0, e1]; exact JaL (by simp only [cat, List.length_append, List.length_cons, List.length_nil]) rfl
theorem JnR : (default : T_api_Copy) = (⟨0, 0, []⟩ : T_api_Copy) := rfl
theorem Jmc (x : T_api_Copy) : sub (J4 x) 0 3 = some (J4 x) := JbD (JaZ x)
theorem Jmu (x y : T_api_Copy) : spl (J4 x) 0 (J4 y) = some (J4 y) := Jbs ((JaZ x).trans (JaZ y).symm)
theorem J8 : (∀ x : T_api_Copy, (J4 x).length = 3) ∧
 (∀ x : T_api_Copy, sub (J4 x) 0 1 = some [.i .i64 x.Page]) ∧
 (∀ (x : T_api_Copy) (y : Int), spl (J4 x) 0 [.i .i64 y] = some (J4 ⟨y, x.LSN, x.Data⟩)) ∧
 (∀ x : T_api_Copy, sub (J4 x) 1 1 = some [.i .i64 x.LSN]) ∧
 (∀ (x : T_api_Copy) (y : Int), spl (J4 x) 1 [.i .i64 y] = some (J4 ⟨x.Page, y, x.Data⟩)) ∧
 (∀ x : T_api_Copy, sub (J4 x) 2 1 = some [.s x.Data]) ∧
 (∀ (x : T_api_Copy) (y : List UInt8), spl (J4 x) 2 [.s y] = some (J4 ⟨x.Page, x.LSN, y⟩)) ∧
 ((default : T_api_Copy) = (⟨0, 0, []⟩ : T_api_Copy)) ∧
 (∀ x : T_api_Copy, sub (J4 x) 0 3 = some (J4 x)) ∧
 (∀ x y : T_api_Copy, spl (J4 x) 0 (J4 y) = some (J4 y)) :=
 ⟨@JaZ, @Jhp, @Jhx, @JiI, @Jih, @Jhl, @JhC, JnR, @Jmc, @Jmu⟩
theorem Jm : (∀ x : T_api_Copy, J4 x = (cat [.i .i64 x.Page] (cat [.i .i64 x.LSN] [.s x.Data]))) ∧ (default : T_api_Copy) = (⟨0, 0, []⟩ : T_api_Copy) := ⟨fun _ => rfl, rfl⟩
structure T_api_Image where
 ID : Int
 Pages : Int
 Copies : List T_api_Copy
 deriving DecidableEq
instance : Inhabited T_api_Image := ⟨⟨0, 0, []⟩⟩
def J3 (x : T_api_Image) : List PV := (cat [.i .i64 x.ID] (cat [.i .i64 x.Pages] [.sl 3 (List.map J4 x.Copies)]))
theorem Jam (x : T_api_Image) : (J3 x).length = 3 := by
 simp only [cat, J3, List.length_append, List.length_cons, List.length_nil]
theorem Jj0 (x : T_api_Image) : sub (J3 x) 0 1 = some [.i .i64 x.ID] := by unfold J3; exact J9y rfl
theorem Jie (x : T_api_Image) (y : Int) : spl (J3 x) 0 [.i .i64 y] = some (J3 ⟨y, x.Pages, x.Copies⟩) := by unfold J3; exact J9t rfl
theorem JfJ (x : T_api_Image) : sub (J3 x) 1 1 = some [.i .i64 x.Pages] := by
 have e0 : J3 x = cat [.i .i64 x.ID] (cat [.i .i64 x.Pages] [.sl 3 (List.map J4 x.Copies)]) := by unfold J3; simp only [cat, List.append_assoc]
 rw [e0]; exact JbN (by simp only [cat, List.length_append, List.length_cons, List.length_nil]) rfl
theorem JfH (x : T_api_Image) (y : Int) : spl (J3 x) 1 [.i .i64 y] = some (J3 ⟨x.ID, y, x.Copies⟩) := by
 have e0 : J3 x = cat [.i .i64 x.ID] (cat [.i .i64 x.Pages] [.sl 3 (List.map J4 x.Copies)]) := by unfold J3; simp only [cat, List.append_assoc]
 have e1 : J3 ⟨x.ID, y, x.Copies⟩ = cat [.i .i64 x.ID] (cat [.i .i64 y] [.sl 3 (List.map J4 x.Copies)]) := by unfold J3; simp only [cat, List.append_assoc]
 rw [e0, e1]; exact JbQ (by simp only [cat, List.length_append, List.length_cons, List.length_nil]) rfl
theorem Jet (x : T_api_Image) : sub (J3 x) 2 1 = some [.sl 3 (List.map J4 x.Copies)] := by
 have e0 : J3 x = cat (cat [.i .i64 x.ID] [.i .i64 x.Pages]) [.sl 3 (List.map J4 x.Copies)] := by unfold J3; simp only [cat, List.append_assoc]
 rw [e0]; exact JaT (by simp only [cat, List.length_append, List.length_cons, List.length_nil]) rfl
theorem JeA (x : T_api_Image) (y : List T_api_Copy) : spl (J3 x) 2 [.sl 3 (List.map J4 y)] = some (J3 ⟨x.ID, x.Pages, y⟩) := by
 have e0 : J3 x = cat (cat [.i .i64 x.ID] [.i .i64 x.Pages]) [.sl 3 (List.map J4 x.Copies)] := by unfold J3; simp only [cat, List.append_assoc]
 have e1 : J3 ⟨x.ID, x.Pages, y⟩ = cat (cat [.i .i64 x.ID] [.i .i64 x.Pages]) [.sl 3 (List.map J4 y)] := by unfold J3; simp only [cat, List.append_assoc]
 rw [e0, e1]; exact JaL (by simp only [cat, List.length_append, List.length_cons, List.length_nil]) rfl
theorem JmM : (default : T_api_Image) = (⟨0, 0, []⟩ : T_api_Image) := rfl
theorem JkT (x : T_api_Image) : sub (J3 x) 0 3 = some (J3 x) := JbD (Jam x)
theorem JkV (x y : T_api_Image) : spl (J3 x) 0 (J3 y) = some (J3 y) := Jbs ((Jam x).trans (Jam y).symm)
theorem J9 : (∀ x : T_api_Image, (J3 x).length = 3) ∧
 (∀ x : T_api_Image, sub (J3 x) 0 1 = some [.i .i64 x.ID]) ∧
 (∀ (x : T_api_Image) (y : Int), spl (J3 x) 0 [.i .i64 y] = some (J3 ⟨y, x.Pages, x.Copies⟩)) ∧
 (∀ x : T_api_Image, sub (J3 x) 1 1 = some [.i .i64 x.Pages]) ∧
 (∀ (x : T_api_Image) (y : Int), spl (J3 x) 1 [.i .i64 y] = some (J3 ⟨x.ID, y, x.Copies⟩)) ∧
 (∀ x : T_api_Image, sub (J3 x) 2 1 = some [.sl 3 (List.map J4 x.Copies)]) ∧
 (∀ (x : T_api_Image) (y : List T_api_Copy), spl (J3 x) 2 [.sl 3 (List.map J4 y)] = some (J3 ⟨x.ID, x.Pages, y⟩)) ∧
 ((default : T_api_Image) = (⟨0, 0, []⟩ : T_api_Image)) ∧
 (∀ x : T_api_Image, sub (J3 x) 0 3 = some (J3 x)) ∧
 (∀ x y : T_api_Image, spl (J3 x) 0 (J3 y) = some (J3 y)) :=
 ⟨@Jam, @Jj0, @Jie, @JfJ, @JfH, @Jet, @JeA, JmM, @JkT, @JkV⟩
theorem Jl : (∀ x : T_api_Image, J3 x = (cat [.i .i64 x.ID] (cat [.i .i64 x.Pages] [.sl 3 (List.map J4 x.Copies)]))) ∧ (default : T_api_Image) = (⟨0, 0, []⟩ : T_api_Image) := ⟨fun _ => rfl, rfl⟩
structure Je where
 Set : Bool
 Data : List UInt8
 deriving DecidableEq
instance : Inhabited Je := ⟨⟨false, []⟩⟩
def Ji (x : Je) : List PV := (cat [.b x.Set] [.s x.Data])
theorem JZ (x : Je) : (Ji x).length = 2 := by
 simp only [cat, Ji, List.length_append, List.length_cons, List.length_nil]
theorem Jan (x : Je) : sub (Ji x) 0 1 = some [.b x.Set] := by unfold Ji; exact J9y rfl
theorem Jjd (x : Je) (y : Bool) : spl (Ji x) 0 [.b y] = some (Ji ⟨y, x.Data⟩) := by unfold Ji; exact J9t rfl
theorem J7C (x : Je) : sub (Ji x) 1 1 = some [.s x.Data] := by
 have e0 : Ji x = cat [.b x.Set] [.s x.Data] := by unfold Ji; simp only [cat, List.append_assoc]
 rw [e0]; exact JaT (by simp only [cat, List.length_append, List.length_cons, List.length_nil]) rfl
theorem JhN (x : Je) (y : List UInt8) : spl (Ji x) 1 [.s y] = some (Ji ⟨x.Set, y⟩) := by
 have e0 : Ji x = cat [.b x.Set] [.s x.Data] := by unfold Ji; simp only [cat, List.append_assoc]
 have e1 : Ji ⟨x.Set, y⟩ = cat [.b x.Set] [.s y] := by unfold Ji; simp only [cat, List.append_assoc]
 rw [e0, e1]; exact JaL (by simp only [cat, List.length_append, List.length_cons, List.length_nil]) rfl
theorem Jnt : (default : Je) = (⟨false, []⟩ : Je) := rfl
theorem JmF (x : Je) : sub (Ji x) 0 2 = some (Ji x) := JbD (JZ x)
theorem JmB (x y : Je) : spl (Ji x) 0 (Ji y) = some (Ji y) := Jbs ((JZ x).trans (JZ y).symm)
theorem J7 : (∀ x : Je, (Ji x).length = 2) ∧
 (∀ x : Je, sub (Ji x) 0 1 = some [.b x.Set]) ∧
 (∀ (x : Je) (y : Bool), spl (Ji x) 0 [.b y] = some (Ji ⟨y, x.Data⟩)) ∧
 (∀ x : Je, sub (Ji x) 1 1 = some [.s x.Data]) ∧
 (∀ (x : Je) (y : List UInt8), spl (Ji x) 1 [.s y] = some (Ji ⟨x.Set, y⟩)) ∧
 ((default : Je) = (⟨false, []⟩ : Je)) ∧
 (∀ x : Je, sub (Ji x) 0 2 = some (Ji x)) ∧
 (∀ x y : Je, spl (Ji x) 0 (Ji y) = some (Ji y)) :=
 ⟨@JZ, @Jan, @Jjd, @J7C, @JhN, Jnt, @JmF, @JmB⟩
theorem J0b : (∀ x : Je, Ji x = (cat [.b x.Set] [.s x.Data])) ∧ (default : Je) = (⟨false, []⟩ : Je) := ⟨fun _ => rfl, rfl⟩
theorem J1 : (∀ v : Vector Je 16, (J08 Ji v).length = 32) ∧ (∀ v : Vector Je 16, sub (J08 Ji v) 0 32 = some (J08 Ji v)) ∧ (∀ v y : Vector Je 16, spl (J08 Ji v) 0 (J08 Ji y) = some (J08 Ji y)) :=
 ⟨fun v => J65 JZ v, fun v => JbD (J65 JZ v), fun v y => Jbs ((J65 JZ v).trans (J65 JZ y).symm)⟩
structure T_api_Page where
 ID : Int
 LSN : Int
 Cells : Vector Je 16
 deriving DecidableEq
instance : Inhabited T_api_Page := ⟨⟨0, 0, (Vector.replicate 16 (⟨false, []⟩ : Je))⟩⟩
def J5 (x : T_api_Page) : List PV := (cat [.i .i64 x.ID] (cat [.i .i64 x.LSN] ((J08 Ji) x.Cells)))
theorem Jb7 (x : T_api_Page) : (J5 x).length = 34 := by
 simp only [cat, J5, (J65 JZ x.Cells), List.length_append, List.length_cons, List.length_nil]
theorem Jjj (x : T_api_Page) : sub (J5 x) 0 1 = some [.i .i64 x.ID] := by unfold J5; exact J9y rfl
theorem JjV (x : T_api_Page) (y : Int) : spl (J5 x) 0 [.i .i64 y] = some (J5 ⟨y, x.LSN, x.Cells⟩) := by unfold J5; exact J9t rfl
theorem Jij (x : T_api_Page) : sub (J5 x) 1 1 = some [.i .i64 x.LSN] := by
 have e0 : J5 x = cat [.i .i64 x.ID] (cat [.i .i64 x.LSN] ((J08 Ji) x.Cells)) := by unfold J5; simp only [cat, List.append_assoc]
 rw [e0]; exact JbN (by simp only [cat, List.length_append, List.length_cons, List.length_nil, (J65 JZ x.Cells)]) rfl
theorem JiJ (x : T_api_Page) (y : Int) : spl (J5 x) 1 [.i .i64 y] = some (J5 ⟨x.ID, y, x.Cells⟩) := by
 have e0 : J5 x = cat [.i .i64 x.ID] (cat [.i .i64 x.LSN] ((J08 Ji) x.Cells)) := by unfold J5; simp only [cat, List.append_assoc]
 have e1 : J5 ⟨x.ID, y, x.Cells⟩ = cat [.i .i64 x.ID] (cat [.i .i64 y] ((J08 Ji) x.Cells)) := by unfold J5; simp only [cat, List.append_assoc]
 rw [e0, e1]; exact JbQ (by simp only [cat, List.length_append, List.length_cons, List.length_nil, (J65 JZ x.Cells)]) rfl
theorem J1d (x : T_api_Page) : sub (J5 x) 2 32 = some ((J08 Ji) x.Cells) := by
 have e0 : J5 x = cat (cat [.i .i64 x.ID] [.i .i64 x.LSN]) ((J08 Ji) x.Cells) := by unfold J5; simp only [cat, List.append_assoc]
 rw [e0]; exact JaT (by simp only [cat, List.length_append, List.length_cons, List.length_nil, (J65 JZ x.Cells)]) (J65 JZ _)
theorem J7h (x : T_api_Page) (y : Vector Je 16) : spl (J5 x) 2 ((J08 Ji) y) = some (J5 ⟨x.ID, x.LSN, y⟩) := by
 have e0 : J5 x = cat (cat [.i .i64 x.ID] [.i .i64 x.LSN]) ((J08 Ji) x.Cells) := by unfold J5; simp only [cat, List.append_assoc]
 have e1 : J5 ⟨x.ID, x.LSN, y⟩ = cat (cat [.i .i64 x.ID] [.i .i64 x.LSN]) ((J08 Ji) y) := by unfold J5; simp only [cat, List.append_assoc]
 rw [e0, e1]; exact JaL (by simp only [cat, List.length_append, List.length_cons, List.length_nil, (J65 JZ x.Cells)]) ((J65 JZ _).trans (J65 JZ _).symm)
theorem Joq : (default : T_api_Page) = (⟨0, 0, (Vector.replicate 16 (⟨false, []⟩ : Je))⟩ : T_api_Page) := rfl
theorem Jmb (x : T_api_Page) : sub (J5 x) 0 34 = some (J5 x) := JbD (Jb7 x)
theorem Jmz (x y : T_api_Page) : spl (J5 x) 0 (J5 y) = some (J5 y) := Jbs ((Jb7 x).trans (Jb7 y).symm)
theorem J6 : (∀ x : T_api_Page, (J5 x).length = 34) ∧
 (∀ x : T_api_Page, sub (J5 x) 0 1 = some [.i .i64 x.ID]) ∧
 (∀ (x : T_api_Page) (y : Int), spl (J5 x) 0 [.i .i64 y] = some (J5 ⟨y, x.LSN, x.Cells⟩)) ∧
 (∀ x : T_api_Page, sub (J5 x) 1 1 = some [.i .i64 x.LSN]) ∧
 (∀ (x : T_api_Page) (y : Int), spl (J5 x) 1 [.i .i64 y] = some (J5 ⟨x.ID, y, x.Cells⟩)) ∧
 (∀ x : T_api_Page, sub (J5 x) 2 32 = some ((J08 Ji) x.Cells)) ∧
 (∀ (x : T_api_Page) (y : Vector Je 16), spl (J5 x) 2 ((J08 Ji) y) = some (J5 ⟨x.ID, x.LSN, y⟩)) ∧
 ((default : T_api_Page) = (⟨0, 0, (Vector.replicate 16 (⟨false, []⟩ : Je))⟩ : T_api_Page)) ∧
 (∀ x : T_api_Page, sub (J5 x) 0 34 = some (J5 x)) ∧
 (∀ x y : T_api_Page, spl (J5 x) 0 (J5 y) = some (J5 y)) :=
 ⟨@Jb7, @Jjj, @JjV, @Jij, @JiJ, @J1d, @J7h, Joq, @Jmb, @Jmz⟩
structure T_pagemenddraw_Codes where
 l_ : List Int
 at_ : Int
 deriving DecidableEq
instance : Inhabited T_pagemenddraw_Codes := ⟨⟨[], 0⟩⟩
def J0 (x : T_pagemenddraw_Codes) : List PV := (cat [.sl 1 (List.map (r_i .u8) x.l_)] [.i .i64 x.at_])
theorem J5o (x : T_pagemenddraw_Codes) : (J0 x).length = 2 := by
 simp only [cat, J0, List.length_append, List.length_cons, List.length_nil]
theorem Jce (x : T_pagemenddraw_Codes) : sub (J0 x) 0 1 = some [.sl 1 (List.map (r_i .u8) x.l_)] := by unfold J0; exact J9y rfl
theorem Jck (x : T_pagemenddraw_Codes) (y : List Int) : spl (J0 x) 0 [.sl 1 (List.map (r_i .u8) y)] = some (J0 ⟨y, x.at_⟩) := by unfold J0; exact J9t rfl
theorem Jc3 (x : T_pagemenddraw_Codes) : sub (J0 x) 1 1 = some [.i .i64 x.at_] := by
 have e0 : J0 x = cat [.sl 1 (List.map (r_i .u8) x.l_)] [.i .i64 x.at_] := by unfold J0; simp only [cat, List.append_assoc]
 rw [e0]; exact JaT (by simp only [cat, List.length_append, List.length_cons, List.length_nil]) rfl
theorem JbW (x : T_pagemenddraw_Codes) (y : Int) : spl (J0 x) 1 [.i .i64 y] = some (J0 ⟨x.l_, y⟩) := by
 have e0 : J0 x = cat [.sl 1 (List.map (r_i .u8) x.l_)] [.i .i64 x.at_] := by unfold J0; simp only [cat, List.append_assoc]
 have e1 : J0 ⟨x.l_, y⟩ = cat [.sl 1 (List.map (r_i .u8) x.l_)] [.i .i64 y] := by unfold J0; simp only [cat, List.append_assoc]
 rw [e0, e1]; exact JaL (by simp only [cat, List.length_append, List.length_cons, List.length_nil]) rfl
theorem JdG : (default : T_pagemenddraw_Codes) = (⟨[], 0⟩ : T_pagemenddraw_Codes) := rfl
theorem Jde (x : T_pagemenddraw_Codes) : sub (J0 x) 0 2 = some (J0 x) := JbD (J5o x)
theorem Jdb (x y : T_pagemenddraw_Codes) : spl (J0 x) 0 (J0 y) = some (J0 y) := Jbs ((J5o x).trans (J5o y).symm)
theorem Jd : (∀ x : T_pagemenddraw_Codes, (J0 x).length = 2) ∧
 (∀ x : T_pagemenddraw_Codes, sub (J0 x) 0 1 = some [.sl 1 (List.map (r_i .u8) x.l_)]) ∧
 (∀ (x : T_pagemenddraw_Codes) (y : List Int), spl (J0 x) 0 [.sl 1 (List.map (r_i .u8) y)] = some (J0 ⟨y, x.at_⟩)) ∧
 (∀ x : T_pagemenddraw_Codes, sub (J0 x) 1 1 = some [.i .i64 x.at_]) ∧
 (∀ (x : T_pagemenddraw_Codes) (y : Int), spl (J0 x) 1 [.i .i64 y] = some (J0 ⟨x.l_, y⟩)) ∧
 ((default : T_pagemenddraw_Codes) = (⟨[], 0⟩ : T_pagemenddraw_Codes)) ∧
 (∀ x : T_pagemenddraw_Codes, sub (J0 x) 0 2 = some (J0 x)) ∧
 (∀ x y : T_pagemenddraw_Codes, spl (J0 x) 0 (J0 y) = some (J0 y)) :=
 ⟨@J5o, @Jce, @Jck, @Jc3, @JbW, JdG, @Jde, @Jdb⟩
theorem JA : (∀ x : T_pagemenddraw_Codes, J0 x = (cat [.sl 1 (List.map (r_i .u8) x.l_)] [.i .i64 x.at_])) ∧ (default : T_pagemenddraw_Codes) = (⟨[], 0⟩ : T_pagemenddraw_Codes) := ⟨fun _ => rfl, rfl⟩
structure T_page_builder where
 s_ : List UInt8
 deriving DecidableEq
instance : Inhabited T_page_builder := ⟨⟨[]⟩⟩
def J0P (x : T_page_builder) : List PV := [.s x.s_]
theorem JD : (∀ x : T_page_builder, J0P x = [.s x.s_]) ∧ (default : T_page_builder) = (⟨[]⟩ : T_page_builder) := ⟨fun _ => rfl, rfl⟩
theorem J7r : (∀ v : Vector Int 16, (J08 (r_i .u32) v).length = 16) ∧ (∀ v : Vector Int 16, sub (J08 (r_i .u32) v) 0 16 = some (J08 (r_i .u32) v)) ∧ (∀ v y : Vector Int 16, spl (J08 (r_i .u32) v) 0 (J08 (r_i .u32) y) = some (J08 (r_i .u32) y)) :=
 ⟨fun v => J65 (Jbr .u32) v, fun v => JbD (J65 (Jbr .u32) v), fun v y => Jbs ((J65 (Jbr .u32) v).trans (J65 (Jbr .u32) y).symm)⟩
theorem Jn1 (x y : T_api_Copy) : J0Z [(.i .i64), (.i .i64), .s] (J4 x) (J4 y) = some (decide (x = y)) := by
 have h := (Jcx (Jni .i64 x.Page y.Page) (Jcx (Jni .i64 x.LSN y.LSN) (Jur x.Data y.Data)))
 have e : decide (x.Page = y.Page ∧ (x.LSN = y.LSN ∧ (x.Data = y.Data))) = decide (x = y) := decide_eq_decide.2 (by cases x; cases y; simp only [T_api_Copy.mk.injEq])
 exact h.trans (congrArg some e)
theorem J1q (x y : T_api_Copy) : J0Z [(.i .i64), (.i .i64), .s] (J4 x) (J4 y) = some (x == y) := Jn1 x y
theorem Jml (x y : Je) : J0Z [.b, .s] (Ji x) (Ji y) = some (decide (x = y)) := by
 have h := (Jcx (JxA x.Set y.Set) (Jur x.Data y.Data))
 have e : decide (x.Set = y.Set ∧ (x.Data = y.Data)) = decide (x = y) := decide_eq_decide.2 (by cases x; cases y; simp only [Je.mk.injEq])
 exact h.trans (congrArg some e)
theorem JmG (x y : T_api_Page) : J0Z [(.i .i64), (.i .i64), .b, .s, .b, .s, .b, .s, .b, .s, .b, .s, .b, .s, .b, .s, .b, .s, .b, .s, .b, .s, .b, .s, .b, .s, .b, .s, .b, .s, .b, .s, .b, .s] (J5 x) (J5 y) = some (decide (x = y)) := by
 have h := (Jcx (Jni .i64 x.ID y.ID) (Jcx (Jni .i64 x.LSN y.LSN) (Jwx (fun x y => (Jml x y)) x.Cells y.Cells)))
 have e : decide (x.ID = y.ID ∧ (x.LSN = y.LSN ∧ (x.Cells = y.Cells))) = decide (x = y) := decide_eq_decide.2 (by cases x; cases y; simp only [T_api_Page.mk.injEq])
 exact h.trans (congrArg some e)
theorem J9g (x y : T_api_Page) : J0Z [(.i .i64), (.i .i64), .b, .s, .b, .s, .b, .s, .b, .s, .b, .s, .b, .s, .b, .s, .b, .s, .b, .s, .b, .s, .b, .s, .b, .s, .b, .s, .b, .s, .b, .s, .b, .s] (J5 x) (J5 y) = some (x == y) := JmG x y
end Go.Am
end
section
namespace Go.Am
set_option maxRecDepth 8000
set_option maxHeartbeats 4000000
set_option linter.unusedSimpArgs false
set_option linter.unusedVariables false
abbrev J7q : FuncId := 15
abbrev J6G : FuncId := 18
abbrev J9I : FuncId := 19
abbrev J7L : FuncId := 20
abbrev J7z : FuncId := 21
abbrev J1C : FuncId := 22
abbrev J3z : FuncId := 24
abbrev J5u : FuncId := 27
abbrev J4O : FuncId := 30
abbrev Jc : FuncId := 31
abbrev J5h : FuncId := 32
abbrev J5L : FuncId := 34
abbrev J75 : FuncId := 37
abbrev J7U : FuncId := 40
abbrev J4y : FuncId := 41
abbrev J8J : FuncId := 42
abbrev J6t : FuncId := 43
abbrev J5P : FuncId := 44
abbrev J4f : FuncId := 52
abbrev J22 : FuncId := 57
abbrev J4P : FuncId := 64
abbrev J2t : FuncId := 69
abbrev J5W : FuncId := 70
abbrev J4k : FuncId := 71
abbrev J6h : FuncId := 72
abbrev J6y : FuncId := 73
abbrev J7Z : FuncId := 74
abbrev J84 : FuncId := 75
abbrev J2X : FuncId := 105
abbrev Jad : FuncId := 107
abbrev J1w : FuncId := 108
abbrev J4h : FuncId := 110
abbrev J8Q : FuncId := 114
abbrev J31 : FuncId := 118
abbrev J4M : FuncId := 120
abbrev J74 : FuncId := 121
abbrev J3P : FuncId := 122
abbrev J7v : FuncId := 123
abbrev J3r : FuncId := 126
abbrev J7a : FuncId := 128
abbrev J88 : FuncId := 129
abbrev J15 : FuncId := 130
abbrev J2i : FuncId := 131
abbrev J5q : FuncId := 132
abbrev J0L : FuncId := 136
abbrev J5S : FuncId := 137
abbrev J0O : FuncId := 138
abbrev J1c : FuncId := 139
abbrev J5D : FuncId := 170
abbrev J79 : FuncId := 171
abbrev J6g : FuncId := 178
abbrev J6k : FuncId := 179
abbrev J8U : FuncId := 180
abbrev J6r : FuncId := 184
abbrev J6L : FuncId := 185
abbrev J9G : FuncId := 186
abbrev J49 : FuncId := 191
abbrev J01 : FuncId := 195
abbrev J0o : FuncId := 196
abbrev J4K : FuncId := 216
abbrev J3U : FuncId := 219
abbrev J8K : FuncId := 220
def Jd8 : Jh := .seq (.reg false [] [⟨.mv (.t 0), some 12, none⟩,
  ⟨.build (J0 default) [(0, 1, (.t 12))], some 13, none⟩,
  ⟨.box 2 (.t 13), some 14, none⟩,
  ⟨.mv (.t 14), some 4, none⟩])
 (.ret)
def J9J : Jh := .seq (.reg false [] [⟨.mv (.c (.p .np)), some 4, none⟩])
 (.seq (.seq (.reg false [] [⟨.mv (.t 0), some 5, none⟩,
  ⟨.len false (.t 5), some 6, none⟩,
  ⟨.mv (.t 1), some 7, none⟩,
  ⟨.bin .gtr .plain (.t 6) (.t 7), some 8, none⟩])
 (.keep [0, 1, 8] (.cond (.t 8)
 (.reg false [] [⟨.mv (.t 0), some 9, none⟩,
   ⟨.mv (.t 1), some 10, none⟩,
   ⟨.slice (.sl 1) (.t 9) none (some (.t 10)) none, some 11, none⟩,
   ⟨.mv (.t 11), some 0, none⟩])
 (.skip))))
 (.keep [0] Jd8))
def J8p : AFn := ⟨2, 15, J9J, [.tmp 4], false⟩
def J2x : Jh := .seq (.seq (.reg false [] [⟨.mv (.t 5), some 27, none⟩,
  ⟨.faddr 2 (.t 2), some 28, none⟩,
  ⟨.load false 1 (.t 28), some 29, none⟩,
  ⟨.len false (.t 29), some 30, none⟩,
  ⟨.bin .lss .plain (.t 27) (.t 30), some 31, none⟩])
 (.keep [2, 3, 5, 31] (.cond (.t 31)
 (.skip)
 (.exit 0))))
 (.seq (.block 1 (.seq (.reg true [] [⟨.faddr 2 (.t 2), some 34, none⟩,
  ⟨.load false 1 (.t 34), some 35, none⟩,
  ⟨.mv (.t 5), some 36, none⟩,
  ⟨.iaddr 3 (.t 35) (.t 36), some 37, none⟩,
  ⟨.load true 3 (.t 37), some 38, none⟩,
  ⟨.faddr 2 (.t 3), some 39, none⟩,
  ⟨.load false 1 (.t 39), some 40, none⟩,
  ⟨.mv (.t 5), some 41, none⟩,
  ⟨.iaddr 3 (.t 40) (.t 41), some 42, none⟩,
  ⟨.load true 3 (.t 42), some 43, none⟩,
  ⟨.bin .neq (.flat [(.i .i64), (.i .i64), .s]) (.t 38) (.t 43), some 44, none⟩])
 (.keep [2, 3, 5, 44] (.cond (.t 44)
 (.seq (.reg false [] [⟨.mv (.c (.p (.b false))), some 4, none⟩])
  (.ret))
 (.skip)))))
 (.reg false [] [⟨.mv (.t 5), some 32, none⟩,
  ⟨.bin .add .plain (.t 32) (.c (.p (.i .i64 1))), some 33, none⟩,
  ⟨.mv (.t 33), some 5, none⟩]))
def J5g : Jh := .seq (.reg false [] [⟨.mv (.c (.p (.b true))), some 4, none⟩])
 (.ret)
def J3H : Jh := .seq (.reg false [] [⟨.box 3 (.t 0), some 2, none⟩,
  ⟨.box 3 (.t 1), some 3, none⟩,
  ⟨.mv (.c (.p (.b false))), some 4, none⟩])
 (.keep [2, 3] (.seq (.seq (.reg false [] [⟨.faddr 0 (.t 2), some 6, none⟩,
  ⟨.load false 1 (.t 6), some 7, none⟩,
  ⟨.faddr 0 (.t 3), some 8, none⟩,
  ⟨.load false 1 (.t 8), some 9, none⟩,
  ⟨.bin .neq .plain (.t 7) (.t 9), some 10, none⟩,
  ⟨.mv (.t 10), some 11, none⟩,
  ⟨.faddr 1 (.t 2), some 12, some (11, false)⟩,
  ⟨.load false 1 (.t 12), some 13, some (11, false)⟩,
  ⟨.faddr 1 (.t 3), some 14, some (11, false)⟩,
  ⟨.load false 1 (.t 14), some 15, some (11, false)⟩,
  ⟨.bin .neq .plain (.t 13) (.t 15), some 16, some (11, false)⟩,
  ⟨.pick (.t 11) (.c (.p (.b true))) (.t 16), some 17, none⟩,
  ⟨.mv (.t 17), some 18, none⟩,
  ⟨.faddr 2 (.t 2), some 19, some (18, false)⟩,
  ⟨.load false 1 (.t 19), some 20, some (18, false)⟩,
  ⟨.len false (.t 20), some 21, some (18, false)⟩,
  ⟨.faddr 2 (.t 3), some 22, some (18, false)⟩,
  ⟨.load false 1 (.t 22), some 23, some (18, false)⟩,
  ⟨.len false (.t 23), some 24, some (18, false)⟩,
  ⟨.bin .neq .plain (.t 21) (.t 24), some 25, some (18, false)⟩,
  ⟨.pick (.t 18) (.c (.p (.b true))) (.t 25), some 26, none⟩])
 (.keep [2, 3, 26] (.cond (.t 26)
 (.seq (.reg false [] [⟨.mv (.c (.p (.b false))), some 4, none⟩])
  (.ret))
 (.skip))))
 (.seq (.seq (.reg false [] [⟨.mv (.c (.p (.i .i64 0))), some 5, none⟩])
 (.block 0 (.loop [2, 3, 5] J2x)))
 (.keep [] J5g))))
def J2V : AFn := ⟨2, 45, J3H, [.tmp 4], false⟩
def J1x : Jh := .seq (.reg false [] [⟨.mv (.c (.p (.i .i64 0))), some 4, none⟩])
 (.seq (.seq (.reg true [] [⟨.mv (.t 0), some 6, none⟩,
  ⟨.nilchk (.t 6), some 7, none⟩,
  ⟨.faddr 1 (.t 7), some 8, none⟩,
  ⟨.load false 1 (.t 8), some 9, none⟩,
  ⟨.mv (.t 0), some 10, none⟩,
  ⟨.nilchk (.t 10), some 11, none⟩,
  ⟨.faddr 0 (.t 11), some 12, none⟩,
  ⟨.load false 1 (.t 12), some 13, none⟩,
  ⟨.len false (.t 13), some 14, none⟩,
  ⟨.bin .geq .plain (.t 9) (.t 14), some 15, none⟩,
  ⟨.mv (.t 15), some 16, none⟩,
  ⟨.mv (.t 1), some 17, some (16, false)⟩,
  ⟨.bin .lss .plain (.t 17) (.c (.p (.i .i64 1))), some 18, some (16, false)⟩,
  ⟨.pick (.t 16) (.c (.p (.b true))) (.t 18), some 19, none⟩])
 (.keep [0, 1, 19] (.cond (.t 19)
 (.seq (.reg false [] [⟨.mv (.c (.p (.i .i64 0))), some 4, none⟩])
  (.ret))
 (.skip))))
 (.seq (.reg true [] [⟨.mv (.t 0), some 20, none⟩,
  ⟨.nilchk (.t 20), some 21, none⟩,
  ⟨.faddr 0 (.t 21), some 22, none⟩,
  ⟨.load false 1 (.t 22), some 23, none⟩,
  ⟨.mv (.t 0), some 24, none⟩,
  ⟨.nilchk (.t 24), some 25, none⟩,
  ⟨.faddr 1 (.t 25), some 26, none⟩,
  ⟨.load false 1 (.t 26), some 27, none⟩,
  ⟨.iaddr 1 (.t 23) (.t 27), some 28, none⟩,
  ⟨.load false 1 (.t 28), some 29, none⟩,
  ⟨.conv (.int .i64) (.t 29), some 30, none⟩,
  ⟨.mv (.t 30), some 5, none⟩])
 (.keep [0, 1, 5] (.seq (.reg false [] [⟨.mv (.t 0), some 31, none⟩,
  ⟨.nilchk (.t 31), some 32, none⟩,
  ⟨.faddr 1 (.t 32), some 33, none⟩,
  ⟨.load false 1 (.t 33), some 34, none⟩,
  ⟨.bin .add .plain (.t 34) (.c (.p (.i .i64 1))), some 35, none⟩,
  ⟨.nilchk (.t 31), some 36, none⟩,
  ⟨.faddr 1 (.t 36), some 37, none⟩,
  ⟨.store 1 (.t 37) (.t 35), none, none⟩])
 (.keep [0, 1, 5] (.seq (.seq (.reg false [] [⟨.mv (.t 1), some 38, none⟩,
  ⟨.bin .gtr .plain (.t 38) (.c (.p (.i .i64 256))), some 39, none⟩])
 (.cond (.t 39)
 (.seq (.reg false [] [⟨.mv (.t 5), some 40, none⟩,
   ⟨.bin .mul .plain (.c (.p (.i .i64 256))) (.t 40), some 41, none⟩,
   ⟨.mv (.t 0), some 42, none⟩,
   ⟨.call Jc [(.t 42), (.c (.p (.i .i64 256)))] 0, some 43, none⟩,
   ⟨.bin .add .plain (.t 41) (.t 43), some 44, none⟩,
   ⟨.mv (.t 1), some 45, none⟩,
   ⟨.bin .rem .plain (.t 44) (.t 45), some 46, none⟩,
   ⟨.mv (.t 46), some 4, none⟩])
  (.ret))
 (.skip)))
 (.seq (.reg false [] [⟨.mv (.t 5), some 47, none⟩,
  ⟨.mv (.t 1), some 48, none⟩,
  ⟨.bin .rem .plain (.t 47) (.t 48), some 49, none⟩,
  ⟨.mv (.t 49), some 4, none⟩])
 (.ret))))))))
def J4L : AFn := ⟨2, 50, J1x, [.tmp 4], false⟩
def J1N : Jh := .seq (.seq (.reg false [] [⟨.mv (.t 5), some 10, none⟩,
  ⟨.mv (.t 3), some 11, none⟩,
  ⟨.len false (.t 11), some 12, none⟩,
  ⟨.bin .lss .plain (.t 10) (.t 12), some 13, none⟩])
 (.keep [0, 3, 4, 5, 13] (.cond (.t 13)
 (.skip)
 (.exit 0))))
 (.seq (.block 1 (.reg false [] [⟨.mv (.t 3), some 16, none⟩,
  ⟨.mv (.t 5), some 17, none⟩,
  ⟨.mv (.t 4), some 18, none⟩,
  ⟨.iaddr 1 (.t 16) (.t 17), some 19, none⟩,
  ⟨.store 1 (.t 19) (.t 18), none, none⟩]))
 (.reg false [] [⟨.mv (.t 5), some 14, none⟩,
  ⟨.bin .add .plain (.t 14) (.c (.p (.i .i64 1))), some 15, none⟩,
  ⟨.mv (.t 15), some 5, none⟩]))
def J2g : Jh := .seq (.reg false [] [⟨.mv (.t 3), some 20, none⟩,
  ⟨.mv (.t 0), some 21, none⟩,
  ⟨.call Jc [(.t 21), (.c (.p (.i .i64 256)))] 0, some 22, none⟩,
  ⟨.mv (.t 0), some 23, none⟩,
  ⟨.call Jc [(.t 23), (.c (.p (.i .i64 256)))] 0, some 24, none⟩,
  ⟨.conv (.int .u8) (.t 24), some 25, none⟩,
  ⟨.iaddr 1 (.t 20) (.t 22), some 26, none⟩,
  ⟨.store 1 (.t 26) (.t 25), none, none⟩])
 (.keep [3] (.seq (.reg false [] [⟨.mv (.t 3), some 27, none⟩,
  ⟨.conv .toStr (.t 27), some 28, none⟩,
  ⟨.mv (.t 28), some 2, none⟩])
 (.ret)))
def J5w : Jh := .seq (.reg false [] [⟨.mv (.c (.p (.s []))), some 2, none⟩])
 (.seq (.reg false [] [⟨.mkslice true 1 1 [(.i .u8 0)] (.c (.p (.i .i64 256))) (.c (.p (.i .i64 256))), some 6, none⟩,
  ⟨.mv (.t 6), some 3, none⟩])
 (.seq (.reg false [] [⟨.mv (.t 0), some 7, none⟩,
  ⟨.call Jc [(.t 7), (.c (.p (.i .i64 256)))] 0, some 8, none⟩,
  ⟨.conv (.int .u8) (.t 8), some 9, none⟩,
  ⟨.mv (.t 9), some 4, none⟩])
 (.keep [0, 3, 4] (.seq (.seq (.reg false [] [⟨.mv (.c (.p (.i .i64 0))), some 5, none⟩])
 (.block 0 (.loop [0, 3, 4, 5] J1N)))
 (.keep [0, 3] J2g)))))
def J10 : AFn := ⟨1, 29, J5w, [.tmp 2], false⟩
def J1V : Jh := .seq (.seq (.reg false [] [⟨.mv (.t 5), some 15, none⟩,
  ⟨.mv (.t 3), some 16, none⟩,
  ⟨.bin .lss .plain (.t 15) (.t 16), some 17, none⟩])
 (.keep [0, 3, 4, 5, 17] (.cond (.t 17)
 (.skip)
 (.exit 0))))
 (.seq (.block 1 (.reg false [] [⟨.mv (.t 4), some 20, none⟩,
  ⟨.mv (.t 0), some 21, none⟩,
  ⟨.call Jc [(.t 21), (.c (.p (.i .i64 3)))] 0, some 22, none⟩,
  ⟨.bin .add .plain (.c (.p (.i .i64 97))) (.t 22), some 23, none⟩,
  ⟨.conv (.int .u8) (.t 23), some 24, none⟩,
  ⟨.lits false 1 1 [(.i .u8 0)] [(0, (.t 24))], some 25, none⟩,
  ⟨.app 1 1 [(.i .u8 0)] (.t 20) (.t 25), some 26, none⟩,
  ⟨.mv (.t 26), some 4, none⟩]))
 (.reg false [] [⟨.mv (.t 5), some 18, none⟩,
  ⟨.bin .add .plain (.t 18) (.c (.p (.i .i64 1))), some 19, none⟩,
  ⟨.mv (.t 19), some 5, none⟩]))
def J2H : Jh := .seq (.reg false [] [⟨.mv (.t 4), some 27, none⟩,
  ⟨.conv .toStr (.t 27), some 28, none⟩,
  ⟨.mv (.t 28), some 2, none⟩])
 (.ret)
def J90 : Jh := .seq (.reg false [] [⟨.mv (.t 3), some 13, none⟩,
  ⟨.mkslice true 1 1 [(.i .u8 0)] (.c (.p (.i .i64 0))) (.t 13), some 14, none⟩,
  ⟨.mv (.t 14), some 4, none⟩])
 (.keep [0, 3, 4] (.seq (.seq (.reg false [] [⟨.mv (.c (.p (.i .i64 0))), some 5, none⟩])
 (.block 0 (.loop [0, 3, 4, 5] J1V)))
 (.keep [4] J2H)))
def J3p : Jh := .seq (.reg false [] [⟨.mv (.c (.p (.s []))), some 2, none⟩])
 (.seq (.reg false [] [⟨.mv (.t 0), some 6, none⟩,
  ⟨.call Jc [(.t 6), (.c (.p (.i .i64 5)))] 0, some 7, none⟩,
  ⟨.mv (.t 7), some 3, none⟩])
 (.keep [0, 3] (.seq (.seq (.reg false [] [⟨.mv (.t 0), some 8, none⟩,
  ⟨.call Jc [(.t 8), (.c (.p (.i .i64 6)))] 0, some 9, none⟩,
  ⟨.bin .eql .plain (.t 9) (.c (.p (.i .i64 0))), some 10, none⟩])
 (.keep [0, 3, 10] (.cond (.t 10)
 (.reg false [] [⟨.mv (.t 0), some 11, none⟩,
   ⟨.call Jc [(.t 11), (.c (.p (.i .i64 14)))] 0, some 12, none⟩,
   ⟨.mv (.t 12), some 3, none⟩])
 (.skip))))
 (.keep [0, 3] J90))))
def J0R : AFn := ⟨1, 29, J3p, [.tmp 2], false⟩
def J2k : Jh := .seq (.reg false [] [⟨.mv (.c (.p (.i .i64 0))), some 2, none⟩])
 (.seq (.seq (.reg false [] [⟨.mv (.t 0), some 3, none⟩,
  ⟨.call Jc [(.t 3), (.c (.p (.i .i64 10)))] 0, some 4, none⟩])
 (.block 0 (.seq (.reg false [] [⟨.bin .eql .plain (.t 4) (.c (.p (.i .i64 0))), some 6, none⟩,
  ⟨.mv (.t 6), some 5, none⟩])
 (.cond (.t 5)
 (.seq (.reg false [] [⟨.mv (.t 0), some 7, none⟩,
   ⟨.call Jc [(.t 7), (.c (.p (.i .i64 3)))] 0, some 8, none⟩,
   ⟨.bin .sub .plain (.c (.p (.i .i64 (-1)))) (.t 8), some 9, none⟩,
   ⟨.mv (.t 9), some 2, none⟩])
  (.ret))
 (.seq (.reg false [] [⟨.bin .eql .plain (.t 4) (.c (.p (.i .i64 1))), some 11, none⟩,
   ⟨.mv (.t 11), some 10, none⟩])
  (.cond (.t 10)
  (.seq (.reg false [] [⟨.lits false 1 16 [(.i .i64 0)] [(0, (.c (.p (.i .i64 9223372036854775807)))), (1, (.c (.p (.i .i64 (-9223372036854775808))))), (2, (.c (.p (.i .i64 1099511627776)))), (3, (.c (.p (.i .i64 1099511627777)))), (4, (.c (.p (.i .i64 1073741824)))), (5, (.c (.p (.i .i64 1073741825)))), (6, (.c (.p (.i .i64 64)))), (7, (.c (.p (.i .i64 63)))), (8, (.c (.p (.i .i64 16)))), (9, (.c (.p (.i .i64 15)))), (10, (.c (.p (.i .i64 256)))), (11, (.c (.p (.i .i64 255)))), (12, (.c (.p (.i .i64 4294967296)))), (13, (.c (.p (.i .i64 65536)))), (14, (.c (.p (.i .i64 256)))), (15, (.c (.p (.i .i64 255))))], some 12, none⟩,
    ⟨.mv (.t 0), some 13, none⟩,
    ⟨.call Jc [(.t 13), (.c (.p (.i .i64 16)))] 0, some 14, none⟩,
    ⟨.iaddr 1 (.t 12) (.t 14), some 15, none⟩,
    ⟨.load false 1 (.t 15), some 16, none⟩,
    ⟨.mv (.t 16), some 2, none⟩])
   (.ret))
  (.skip)))))))
 (.seq (.reg false [] [⟨.mv (.t 0), some 17, none⟩,
  ⟨.call Jc [(.t 17), (.c (.p (.i .i64 20)))] 0, some 18, none⟩,
  ⟨.mv (.t 18), some 2, none⟩])
 (.ret)))
def J5b : AFn := ⟨1, 19, J2k, [.tmp 2], false⟩
def J4Y : Jh := .seq (.seq (.reg false [] [⟨.mv (.t 7), some 15, none⟩,
  ⟨.mv (.t 2), some 16, none⟩,
  ⟨.bin .lss .plain (.t 15) (.t 16), some 17, none⟩])
 (.keep [0, 1, 2, 7, 17] (.cond (.t 17)
 (.skip)
 (.exit 0))))
 (.seq (.block 1 (.reg false [] [⟨.mv (.t 0), some 20, none⟩,
  ⟨.mv (.t 1), some 21, none⟩,
  ⟨.conv (.int .u64) (.t 21), some 22, none⟩,
  ⟨.mv (.t 7), some 23, none⟩,
  ⟨.bin .mul .plain (.c (.p (.i .i64 8))) (.t 23), some 24, none⟩,
  ⟨.conv (.int .u64) (.t 24), some 25, none⟩,
  ⟨.bin .shr .plain (.t 22) (.t 25), some 26, none⟩,
  ⟨.conv (.int .u8) (.t 26), some 27, none⟩,
  ⟨.lits false 1 1 [(.i .u8 0)] [(0, (.t 27))], some 28, none⟩,
  ⟨.conv .toStr (.t 28), some 29, none⟩,
  ⟨.bin .add .plain (.t 20) (.t 29), some 30, none⟩,
  ⟨.mv (.t 30), some 0, none⟩]))
 (.reg false [] [⟨.mv (.t 7), some 18, none⟩,
  ⟨.bin .add .plain (.t 18) (.c (.p (.i .i64 1))), some 19, none⟩,
  ⟨.mv (.t 19), some 7, none⟩]))
def J5V : Jh := .seq (.reg false [] [⟨.mv (.t 0), some 31, none⟩,
  ⟨.mv (.t 31), some 6, none⟩])
 (.ret)
def J6f : Jh := .seq (.reg false [] [⟨.mv (.c (.p (.s []))), some 6, none⟩])
 (.seq (.seq (.reg false [] [⟨.mv (.t 2), some 8, none⟩,
  ⟨.bin .lss .plain (.t 8) (.c (.p (.i .i64 1))), some 9, none⟩,
  ⟨.mv (.t 9), some 10, none⟩,
  ⟨.mv (.t 2), some 11, some (10, false)⟩,
  ⟨.bin .gtr .plain (.t 11) (.c (.p (.i .i64 8))), some 12, some (10, false)⟩,
  ⟨.pick (.t 10) (.c (.p (.b true))) (.t 12), some 13, none⟩])
 (.keep [0, 1, 2, 13] (.cond (.t 13)
 (.seq (.reg false [] [⟨.mv (.t 0), some 14, none⟩,
   ⟨.mv (.t 14), some 6, none⟩])
  (.ret))
 (.skip))))
 (.seq (.seq (.reg false [] [⟨.mv (.c (.p (.i .i64 0))), some 7, none⟩])
 (.block 0 (.loop [0, 1, 2, 7] J4Y)))
 (.keep [0] J5V)))
def J3K : AFn := ⟨3, 32, J6f, [.tmp 6], false⟩
def J4U : Jh := .seq (.reg false [] [⟨.bin .lss .plain (.t 35) (.t 34), some 36, none⟩])
 (.seq (.cond (.t 36)
 (.skip)
 (.exit 1))
 (.seq (.block 2 (.seq (.reg false [] [⟨.mv (.t 35), some 37, none⟩,
  ⟨.mv (.t 37), some 9, none⟩])
 (.reg false [] [⟨.mv (.t 8), some 38, none⟩,
  ⟨.mv (.t 0), some 39, none⟩,
  ⟨.mv (.t 1), some 40, none⟩,
  ⟨.mv (.t 9), some 41, none⟩,
  ⟨.bin .add .plain (.t 40) (.t 41), some 42, none⟩,
  ⟨.sidx (.t 39) (.t 42), some 43, none⟩,
  ⟨.conv (.int .u64) (.t 43), some 44, none⟩,
  ⟨.mv (.t 9), some 45, none⟩,
  ⟨.bin .mul .plain (.c (.p (.i .i64 8))) (.t 45), some 46, none⟩,
  ⟨.bin .shl .plain (.t 44) (.t 46), some 47, none⟩,
  ⟨.bin .or .plain (.t 38) (.t 47), some 48, none⟩,
  ⟨.mv (.t 48), some 8, none⟩])))
 (.reg false [] [⟨.bin .add .plain (.t 35) (.c (.p (.i .i64 1))), some 49, none⟩,
  ⟨.mv (.t 49), some 35, none⟩])))
def J5M : Jh := .seq (.reg false [] [⟨.mv (.t 8), some 50, none⟩,
  ⟨.conv (.int .i64) (.t 50), some 51, none⟩,
  ⟨.mv (.t 51), some 6, none⟩,
  ⟨.mv (.c (.p (.i .i64 0))), some 7, none⟩])
 (.ret)
def J2b : Jh := .seq (.reg false [] [⟨.mv (.c (.p (.i .i64 0))), some 6, none⟩,
  ⟨.mv (.c (.p (.i .i64 0))), some 7, none⟩])
 (.seq (.block 0 (.seq (.reg false [] [⟨.mv (.t 2), some 11, none⟩,
  ⟨.bin .lss .plain (.t 11) (.c (.p (.i .i64 1))), some 12, none⟩,
  ⟨.mv (.t 12), some 13, none⟩,
  ⟨.mv (.t 2), some 14, some (13, false)⟩,
  ⟨.bin .gtr .plain (.t 14) (.c (.p (.i .i64 8))), some 15, some (13, false)⟩,
  ⟨.pick (.t 13) (.c (.p (.b true))) (.t 15), some 16, none⟩,
  ⟨.mv (.t 16), some 17, none⟩,
  ⟨.mv (.t 1), some 18, some (17, false)⟩,
  ⟨.bin .lss .plain (.t 18) (.c (.p (.i .i64 0))), some 19, some (17, false)⟩,
  ⟨.pick (.t 17) (.c (.p (.b true))) (.t 19), some 20, none⟩,
  ⟨.mv (.t 20), some 10, none⟩])
 (.keep [0, 1, 2, 10] (.cond (.t 10)
 (.seq (.reg false [] [⟨.mv (.c (.p (.i .i64 0))), some 6, none⟩,
   ⟨.mv (.c (.p (.i .i64 1))), some 7, none⟩])
  (.ret))
 (.seq (.reg false [] [⟨.mv (.t 1), some 22, none⟩,
   ⟨.mv (.t 0), some 23, none⟩,
   ⟨.len true (.t 23), some 24, none⟩,
   ⟨.bin .gtr .plain (.t 22) (.t 24), some 25, none⟩,
   ⟨.mv (.t 25), some 26, none⟩,
   ⟨.mv (.t 0), some 27, some (26, false)⟩,
   ⟨.len true (.t 27), some 28, some (26, false)⟩,
   ⟨.mv (.t 1), some 29, some (26, false)⟩,
   ⟨.bin .sub .plain (.t 28) (.t 29), some 30, some (26, false)⟩,
   ⟨.mv (.t 2), some 31, some (26, false)⟩,
   ⟨.bin .lss .plain (.t 30) (.t 31), some 32, some (26, false)⟩,
   ⟨.pick (.t 26) (.c (.p (.b true))) (.t 32), some 33, none⟩,
   ⟨.mv (.t 33), some 21, none⟩])
  (.keep [0, 1, 2, 21] (.cond (.t 21)
  (.seq (.reg false [] [⟨.mv (.c (.p (.i .i64 0))), some 6, none⟩,
    ⟨.mv (.c (.p (.i .i64 5))), some 7, none⟩])
   (.ret))
  (.skip))))))))
 (.seq (.reg false [] [⟨.mv (.c (.p (.i .u64 0))), some 8, none⟩])
 (.seq (.seq (.reg false [] [⟨.mv (.t 2), some 34, none⟩,
  ⟨.mv (.c (.p (.i .i64 0))), some 35, none⟩])
 (.block 1 (.loop [0, 1, 8, 34, 35] J4U)))
 (.keep [8] J5M))))
def J3I : AFn := ⟨3, 52, J2b, [.tmp 6, .tmp 7], false⟩
def J3q : Jh := .seq (.reg false [] [⟨.newbox (Ji default), some 2, none⟩])
 (.seq (.seq (.reg false [] [⟨.mv (.t 0), some 4, none⟩,
  ⟨.call Jc [(.t 4), (.c (.p (.i .i64 3)))] 0, some 5, none⟩,
  ⟨.bin .eql .plain (.t 5) (.c (.p (.i .i64 0))), some 6, none⟩])
 (.keep [0, 2, 6] (.cond (.t 6)
 (.seq (.reg false [] [⟨.build (Ji default) [], some 7, none⟩,
   ⟨.store 2 (.t 2) (.t 7), none, none⟩])
  (.ret))
 (.skip))))
 (.seq (.reg false [] [⟨.mv (.t 0), some 8, none⟩,
  ⟨.call J4P [(.t 8)] 0, some 9, none⟩,
  ⟨.mv (.t 9), some 3, none⟩])
 (.keep [2, 3] (.seq (.reg false [] [⟨.mv (.t 3), some 10, none⟩,
  ⟨.mv (.t 3), some 11, none⟩,
  ⟨.len true (.t 11), some 12, none⟩,
  ⟨.mm false (.t 12) (.c (.p (.i .i64 12))), some 13, none⟩,
  ⟨.slice .str (.t 10) none (some (.t 13)) none, some 14, none⟩,
  ⟨.build (Ji default) [(0, 1, (.c (.p (.b true)))), (1, 1, (.t 14))], some 15, none⟩,
  ⟨.store 2 (.t 2) (.t 15), none, none⟩])
 (.ret)))))
def J4J : AFn := ⟨1, 16, J3q, [.cell 2 true 2], false⟩
def J8t : Jh := .seq (.reg false [] [⟨.mv (.c (.p (.s []))), some 2, none⟩])
 (.seq (.reg false [] [⟨.mv (.t 0), some 3, none⟩,
  ⟨.mkslice false 1 1 [(.i .u8 0)] (.t 3) (.t 3), some 4, none⟩,
  ⟨.conv .toStr (.t 4), some 5, none⟩,
  ⟨.mv (.t 5), some 2, none⟩])
 (.ret))
def J6I : AFn := ⟨1, 6, J8t, [.tmp 2], false⟩
def JbU : Jh := .reg false [] [⟨.mv (.t 5), some 20, none⟩,
  ⟨.bin .add .plain (.t 20) (.c (.p (.i .i64 1))), some 21, none⟩,
  ⟨.mv (.t 21), some 5, none⟩]
def J2q : Jh := .seq (.seq (.reg false [] [⟨.mv (.t 5), some 18, none⟩,
  ⟨.bin .lss .plain (.t 18) (.c (.p (.i .i64 8))), some 19, none⟩])
 (.cond (.t 19)
 (.skip)
 (.exit 2)))
 (.seq (.block 3 (.seq (.reg false [] [⟨.mv (.t 3), some 22, none⟩,
  ⟨.bin .and .plain (.t 22) (.c (.p (.i .u32 1))), some 23, none⟩,
  ⟨.bin .eql .plain (.t 23) (.c (.p (.i .u32 1))), some 24, none⟩])
 (.keep [0, 3, 4, 5, 24] (.cond (.t 24)
 (.reg false [] [⟨.mv (.t 3), some 25, none⟩,
   ⟨.bin .shr .plain (.t 25) (.c (.p (.i .u64 1))), some 26, none⟩,
   ⟨.bin .xor .plain (.t 26) (.c (.p (.i .u32 2197175160))), some 27, none⟩,
   ⟨.mv (.t 27), some 3, none⟩])
 (.reg false [] [⟨.mv (.t 3), some 28, none⟩,
   ⟨.bin .shr .plain (.t 28) (.c (.p (.i .u64 1))), some 29, none⟩,
   ⟨.mv (.t 29), some 3, none⟩])))))
 (.keep [0, 3, 4, 5] JbU))
def J4X : Jh := .reg false [] [⟨.mv (.t 4), some 10, none⟩,
  ⟨.bin .add .plain (.t 10) (.c (.p (.i .i64 1))), some 11, none⟩,
  ⟨.mv (.t 11), some 4, none⟩]
def J1k : Jh := .seq (.seq (.reg false [] [⟨.mv (.t 4), some 6, none⟩,
  ⟨.mv (.t 0), some 7, none⟩,
  ⟨.len true (.t 7), some 8, none⟩,
  ⟨.bin .lss .plain (.t 6) (.t 8), some 9, none⟩])
 (.keep [0, 3, 4, 9] (.cond (.t 9)
 (.skip)
 (.exit 0))))
 (.seq (.block 1 (.seq (.reg false [] [⟨.mv (.t 3), some 12, none⟩,
  ⟨.mv (.t 0), some 13, none⟩,
  ⟨.mv (.t 4), some 14, none⟩,
  ⟨.sidx (.t 13) (.t 14), some 15, none⟩,
  ⟨.conv (.int .u32) (.t 15), some 16, none⟩,
  ⟨.bin .xor .plain (.t 12) (.t 16), some 17, none⟩,
  ⟨.mv (.t 17), some 3, none⟩])
 (.keep [0, 3, 4] (.seq (.reg false [] [⟨.mv (.c (.p (.i .i64 0))), some 5, none⟩])
 (.block 2 (.loop [0, 3, 4, 5] J2q))))))
 (.keep [0, 3, 4] J4X))
def J1H : Jh := .seq (.reg false [] [⟨.mv (.t 3), some 30, none⟩,
  ⟨.un .xor (.t 30), some 31, none⟩,
  ⟨.mv (.t 31), some 2, none⟩])
 (.ret)
def Ja2 : Jh := .seq (.reg false [] [⟨.mv (.c (.p (.i .u32 0))), some 2, none⟩])
 (.seq (.reg false [] [⟨.mv (.c (.p (.i .u32 4294967295))), some 3, none⟩])
 (.seq (.seq (.reg false [] [⟨.mv (.c (.p (.i .i64 0))), some 4, none⟩])
 (.block 0 (.loop [0, 3, 4] J1k)))
 (.keep [3] J1H)))
def J1e : AFn := ⟨1, 32, Ja2, [.tmp 2], false⟩
def J0z : Jh := .seq (.reg false [] [⟨.bin .lss .plain (.t 7) (.c (.p (.i .i64 16))), some 8, none⟩])
 (.seq (.cond (.t 8)
 (.skip)
 (.exit 0))
 (.seq (.block 1 (.seq (.reg false [] [⟨.aidx true 16 2 (.t 6) (.t 7), some 9, none⟩,
  ⟨.newbox (Ji default), some 4, none⟩,
  ⟨.store 2 (.t 4) (.t 9), none, none⟩])
 (.keep [1, 4, 6, 7] (.seq (.reg false [] [⟨.faddr 1 (.t 4), some 10, none⟩,
  ⟨.load false 1 (.t 10), some 11, none⟩,
  ⟨.len true (.t 11), some 12, none⟩,
  ⟨.bin .gtr .plain (.t 12) (.c (.p (.i .i64 12))), some 13, none⟩,
  ⟨.mv (.t 13), some 14, none⟩,
  ⟨.faddr 0 (.t 4), some 15, some (14, false)⟩,
  ⟨.load false 1 (.t 15), some 16, some (14, false)⟩,
  ⟨.un .not (.t 16), some 17, some (14, false)⟩,
  ⟨.mv (.t 17), some 18, some (14, false)⟩,
  ⟨.faddr 1 (.t 4), some 19, some (18, true)⟩,
  ⟨.load false 1 (.t 19), some 20, some (18, true)⟩,
  ⟨.bin .neq .plain (.t 20) (.c (.p (.s []))), some 21, some (18, true)⟩,
  ⟨.pick (.t 18) (.t 21) (.c (.p (.b false))), some 22, some (14, false)⟩,
  ⟨.pick (.t 14) (.c (.p (.b true))) (.t 22), some 23, none⟩,
  ⟨.mv (.t 23), some 24, none⟩,
  ⟨.faddr 0 (.t 4), some 25, some (24, false)⟩,
  ⟨.load false 1 (.t 25), some 26, some (24, false)⟩,
  ⟨.mv (.t 26), some 27, some (24, false)⟩,
  ⟨.faddr 1 (.t 1), some 28, some (27, true)⟩,
  ⟨.load false 1 (.t 28), some 29, some (27, true)⟩,
  ⟨.bin .eql .plain (.t 29) (.c (.p (.i .i64 0))), some 30, some (27, true)⟩,
  ⟨.pick (.t 27) (.t 30) (.c (.p (.b false))), some 31, some (24, false)⟩,
  ⟨.pick (.t 24) (.c (.p (.b true))) (.t 31), some 32, none⟩])
 (.keep [1, 6, 7, 32] (.cond (.t 32)
 (.seq (.reg false [] [⟨.mv (.c (.p (.b false))), some 2, none⟩])
  (.ret))
 (.skip)))))))
 (.reg false [] [⟨.bin .add .plain (.t 7) (.c (.p (.i .i64 1))), some 33, none⟩,
  ⟨.mv (.t 33), some 7, none⟩])))
def J5m : Jh := .seq (.reg false [] [⟨.mv (.c (.p (.b true))), some 2, none⟩])
 (.ret)
def J9m : Jh := .seq (.reg false [] [⟨.box 34 (.t 0), some 1, none⟩,
  ⟨.mv (.c (.p (.b false))), some 2, none⟩])
 (.seq (.tidy [2] (.seq (.reg false [] [⟨.faddr 2 (.t 1), some 5, none⟩,
  ⟨.load true 32 (.t 5), some 6, none⟩,
  ⟨.mv (.c (.p (.i .i64 0))), some 7, none⟩])
 (.keep [1, 6, 7] (.block 0 (.loop [1, 6, 7] J0z)))))
 (.keep [] J5m))
def J30 : AFn := ⟨1, 34, J9m, [.tmp 2], false⟩
def JS : Jh := .seq (.reg false [] [⟨.bin .lss .plain (.t 13) (.t 12), some 14, none⟩])
 (.seq (.cond (.t 14)
 (.skip)
 (.exit 0))
 (.seq (.block 1 (.seq (.reg false [] [⟨.mv (.t 13), some 15, none⟩,
  ⟨.mv (.t 15), some 5, none⟩])
 (.seq (.reg true [] [⟨.mv (.t 0), some 16, none⟩,
  ⟨.mv (.t 5), some 17, none⟩,
  ⟨.iaddr 3 (.t 16) (.t 17), some 18, none⟩,
  ⟨.load true 3 (.t 18), some 19, none⟩,
  ⟨.mv (.t 1), some 20, none⟩,
  ⟨.mv (.t 5), some 21, none⟩,
  ⟨.iaddr 3 (.t 20) (.t 21), some 22, none⟩,
  ⟨.load true 3 (.t 22), some 23, none⟩,
  ⟨.bin .neq (.flat [(.i .i64), (.i .i64), .s]) (.t 19) (.t 23), some 24, none⟩])
 (.keep [0, 1, 12, 13, 24] (.cond (.t 24)
 (.seq (.reg false [] [⟨.mv (.c (.p (.b false))), some 4, none⟩])
  (.ret))
 (.skip))))))
 (.reg false [] [⟨.bin .add .plain (.t 13) (.c (.p (.i .i64 1))), some 25, none⟩,
  ⟨.mv (.t 25), some 13, none⟩])))
def J0l : Jh := .seq (.reg false [] [⟨.mv (.c (.p (.b true))), some 4, none⟩])
 (.ret)
def J0M : Jh := .seq (.reg false [] [⟨.mv (.c (.p (.b false))), some 4, none⟩])
 (.seq (.seq (.reg false [] [⟨.mv (.t 0), some 6, none⟩,
  ⟨.len false (.t 6), some 7, none⟩,
  ⟨.mv (.t 1), some 8, none⟩,
  ⟨.len false (.t 8), some 9, none⟩,
  ⟨.bin .neq .plain (.t 7) (.t 9), some 10, none⟩])
 (.keep [0, 1, 10] (.cond (.t 10)
 (.seq (.reg false [] [⟨.mv (.c (.p (.b false))), some 4, none⟩])
  (.ret))
 (.skip))))
 (.seq (.seq (.reg false [] [⟨.mv (.t 0), some 11, none⟩,
  ⟨.len false (.t 11), some 12, none⟩,
  ⟨.mv (.c (.p (.i .i64 0))), some 13, none⟩])
 (.keep [0, 1, 12, 13] (.block 0 (.loop [0, 1, 12, 13] JS))))
 (.keep [] J0l)))
def JN : AFn := ⟨2, 26, J0M, [.tmp 4], false⟩
def J1r : Jbc := ⟨1, 8, .reg false [] [⟨.mkarr 3 (.c (.p (.sl 3 []))), some 2, none⟩], [], .reg false [] [⟨.mv (.t 0), some 3, none⟩,
  ⟨.bin .eql .nils (.t 3) (.c (.p (.sl 3 []))), some 4, none⟩], (.t 4),
 .seq (.reg false [] [⟨.mkarr 3 (.c (.p (.sl 3 []))), some 2, none⟩])
 (.ret),
 .skip,
 .seq (.reg false [] [⟨.lits true 3 0 (J4 default) [], some 5, none⟩,
  ⟨.mv (.t 0), some 6, none⟩,
  ⟨.app 3 32 (J4 default) (.t 5) (.t 6), some 7, none⟩,
  ⟨.mv (.t 7), some 2, none⟩])
 (.ret), [.tmp 2], true⟩
def J2d : Jh := .seq (.reg false [] [⟨.box 34 (.t 0), some 1, none⟩,
  ⟨.mv (.c (.p (.b false))), some 2, none⟩])
 (.seq (.reg false [] [⟨.faddr 0 (.t 1), some 3, none⟩,
  ⟨.load false 1 (.t 3), some 4, none⟩,
  ⟨.bin .geq .plain (.t 4) (.c (.p (.i .i64 0))), some 5, none⟩,
  ⟨.mv (.t 5), some 6, none⟩,
  ⟨.faddr 0 (.t 1), some 7, some (6, true)⟩,
  ⟨.load false 1 (.t 7), some 8, some (6, true)⟩,
  ⟨.bin .lss .plain (.t 8) (.c (.p (.i .i64 64))), some 9, some (6, true)⟩,
  ⟨.pick (.t 6) (.t 9) (.c (.p (.b false))), some 10, none⟩,
  ⟨.mv (.t 10), some 11, none⟩,
  ⟨.faddr 1 (.t 1), some 12, some (11, true)⟩,
  ⟨.load false 1 (.t 12), some 13, some (11, true)⟩,
  ⟨.bin .geq .plain (.t 13) (.c (.p (.i .i64 0))), some 14, some (11, true)⟩,
  ⟨.pick (.t 11) (.t 14) (.c (.p (.b false))), some 15, none⟩,
  ⟨.mv (.t 15), some 16, none⟩,
  ⟨.faddr 1 (.t 1), some 17, some (16, true)⟩,
  ⟨.load false 1 (.t 17), some 18, some (16, true)⟩,
  ⟨.bin .leq .plain (.t 18) (.c (.p (.i .i64 1099511627776))), some 19, some (16, true)⟩,
  ⟨.pick (.t 16) (.t 19) (.c (.p (.b false))), some 20, none⟩,
  ⟨.mv (.t 20), some 2, none⟩])
 (.ret))
def J5G : AFn := ⟨1, 21, J2d, [.tmp 2], false⟩
def J4V : Jh := .seq (.seq (.reg false [] [⟨.mv (.t 9), some 32, none⟩,
  ⟨.mv (.t 2), some 33, none⟩,
  ⟨.bin .lss .plain (.t 32) (.t 33), some 34, none⟩])
 (.keep [0, 1, 2, 8, 9, 34] (.cond (.t 34)
 (.skip)
 (.exit 0))))
 (.seq (.block 1 (.reg false [] [⟨.mv (.t 8), some 37, none⟩,
  ⟨.mv (.t 0), some 38, none⟩,
  ⟨.mv (.t 1), some 39, none⟩,
  ⟨.mv (.t 9), some 40, none⟩,
  ⟨.bin .add .plain (.t 39) (.t 40), some 41, none⟩,
  ⟨.sidx (.t 38) (.t 41), some 42, none⟩,
  ⟨.conv (.int .u64) (.t 42), some 43, none⟩,
  ⟨.mv (.t 9), some 44, none⟩,
  ⟨.bin .mul .plain (.c (.p (.i .i64 8))) (.t 44), some 45, none⟩,
  ⟨.conv (.int .u64) (.t 45), some 46, none⟩,
  ⟨.bin .shl .plain (.t 43) (.t 46), some 47, none⟩,
  ⟨.bin .or .plain (.t 37) (.t 47), some 48, none⟩,
  ⟨.mv (.t 48), some 8, none⟩]))
 (.reg false [] [⟨.mv (.t 9), some 35, none⟩,
  ⟨.bin .add .plain (.t 35) (.c (.p (.i .i64 1))), some 36, none⟩,
  ⟨.mv (.t 36), some 9, none⟩]))
def J60 : Jh := .seq (.reg false [] [⟨.mv (.t 8), some 49, none⟩,
  ⟨.conv (.int .i64) (.t 49), some 50, none⟩,
  ⟨.mv (.t 50), some 6, none⟩,
  ⟨.mv (.c (.p (.i .i64 0))), some 7, none⟩])
 (.ret)
def J2a : Jh := .seq (.reg false [] [⟨.mv (.c (.p (.i .i64 0))), some 6, none⟩,
  ⟨.mv (.c (.p (.i .i64 0))), some 7, none⟩])
 (.seq (.seq (.reg false [] [⟨.mv (.t 2), some 10, none⟩,
  ⟨.bin .lss .plain (.t 10) (.c (.p (.i .i64 1))), some 11, none⟩,
  ⟨.mv (.t 11), some 12, none⟩,
  ⟨.mv (.t 2), some 13, some (12, false)⟩,
  ⟨.bin .gtr .plain (.t 13) (.c (.p (.i .i64 8))), some 14, some (12, false)⟩,
  ⟨.pick (.t 12) (.c (.p (.b true))) (.t 14), some 15, none⟩,
  ⟨.mv (.t 15), some 16, none⟩,
  ⟨.mv (.t 1), some 17, some (16, false)⟩,
  ⟨.bin .lss .plain (.t 17) (.c (.p (.i .i64 0))), some 18, some (16, false)⟩,
  ⟨.pick (.t 16) (.c (.p (.b true))) (.t 18), some 19, none⟩])
 (.keep [0, 1, 2, 19] (.cond (.t 19)
 (.seq (.reg false [] [⟨.mv (.c (.p (.i .i64 0))), some 6, none⟩,
   ⟨.mv (.c (.p (.i .i64 1))), some 7, none⟩])
  (.ret))
 (.skip))))
 (.seq (.seq (.reg false [] [⟨.mv (.t 1), some 20, none⟩,
  ⟨.mv (.t 0), some 21, none⟩,
  ⟨.len true (.t 21), some 22, none⟩,
  ⟨.bin .gtr .plain (.t 20) (.t 22), some 23, none⟩,
  ⟨.mv (.t 23), some 24, none⟩,
  ⟨.mv (.t 0), some 25, some (24, false)⟩,
  ⟨.len true (.t 25), some 26, some (24, false)⟩,
  ⟨.mv (.t 1), some 27, some (24, false)⟩,
  ⟨.bin .sub .plain (.t 26) (.t 27), some 28, some (24, false)⟩,
  ⟨.mv (.t 2), some 29, some (24, false)⟩,
  ⟨.bin .lss .plain (.t 28) (.t 29), some 30, some (24, false)⟩,
  ⟨.pick (.t 24) (.c (.p (.b true))) (.t 30), some 31, none⟩])
 (.keep [0, 1, 2, 31] (.cond (.t 31)
 (.seq (.reg false [] [⟨.mv (.c (.p (.i .i64 0))), some 6, none⟩,
   ⟨.mv (.c (.p (.i .i64 5))), some 7, none⟩])
  (.ret))
 (.skip))))
 (.seq (.reg false [] [⟨.mv (.c (.p (.i .u64 0))), some 8, none⟩])
 (.seq (.seq (.reg false [] [⟨.mv (.c (.p (.i .i64 0))), some 9, none⟩])
 (.block 0 (.loop [0, 1, 2, 8, 9] J4V)))
 (.keep [8] J60)))))
def J3L : AFn := ⟨3, 51, J2a, [.tmp 6, .tmp 7], false⟩
def Ja7 : Jh := .seq (.reg false [] [⟨.newbox (J5 default), some 2, none⟩])
 (.seq (.reg false [] [⟨.mv (.t 0), some 3, none⟩,
  ⟨.build (J5 default) [(0, 1, (.t 3))], some 4, none⟩,
  ⟨.store 34 (.t 2) (.t 4), none, none⟩])
 (.ret))
def J8I : AFn := ⟨1, 5, Ja7, [.cell 2 true 34], false⟩
def J82 : Jh := .seq (.reg false [] [⟨.mv (.c (.p (.b false))), some 2, none⟩])
 (.seq (.reg false [] [⟨.mv (.t 0), some 3, none⟩,
  ⟨.bin .geq .plain (.t 3) (.c (.p (.i .i64 0))), some 4, none⟩,
  ⟨.mv (.t 4), some 5, none⟩,
  ⟨.mv (.t 0), some 6, some (5, true)⟩,
  ⟨.bin .lss .plain (.t 6) (.c (.p (.i .i64 64))), some 7, some (5, true)⟩,
  ⟨.pick (.t 5) (.t 7) (.c (.p (.b false))), some 8, none⟩,
  ⟨.mv (.t 8), some 2, none⟩])
 (.ret))
def J81 : AFn := ⟨1, 9, J82, [.tmp 2], false⟩
def Jb6 : Jh := .seq (.reg false [] [⟨.newbox (J5 default), some 2, none⟩])
 (.seq (.reg false [] [⟨.mv (.t 0), some 3, none⟩,
  ⟨.build (J5 default) [(0, 1, (.t 3))], some 4, none⟩,
  ⟨.store 34 (.t 2) (.t 4), none, none⟩])
 (.ret))
def J9M : AFn := ⟨1, 5, Jb6, [.cell 2 true 34], false⟩
def J0U : Jh := .seq (.reg false [] [⟨.bin .lss .plain (.t 9) (.c (.p (.i .i64 4))), some 10, none⟩])
 (.seq (.cond (.t 10)
 (.skip)
 (.exit 2))
 (.seq (.block 3 (.seq (.reg false [] [⟨.mv (.t 3), some 11, none⟩,
  ⟨.bin .and .plain (.t 11) (.c (.p (.i .u32 1))), some 12, none⟩,
  ⟨.bin .eql .plain (.t 12) (.c (.p (.i .u32 1))), some 13, none⟩])
 (.keep [0, 1, 2, 3, 4, 9, 13] (.cond (.t 13)
 (.reg false [] [⟨.mv (.t 3), some 14, none⟩,
   ⟨.bin .shr .plain (.t 14) (.c (.p (.i .u64 1))), some 15, none⟩,
   ⟨.bin .xor .plain (.t 15) (.c (.p (.i .u32 2197175160))), some 16, none⟩,
   ⟨.mv (.t 16), some 3, none⟩])
 (.reg false [] [⟨.mv (.t 3), some 17, none⟩,
   ⟨.bin .shr .plain (.t 17) (.c (.p (.i .u64 1))), some 18, none⟩,
   ⟨.mv (.t 18), some 3, none⟩])))))
 (.reg false [] [⟨.bin .add .plain (.t 9) (.c (.p (.i .i64 1))), some 19, none⟩,
  ⟨.mv (.t 19), some 9, none⟩])))
def J2j : Jh := .reg false [] [⟨.mv (.t 2), some 20, none⟩,
  ⟨.mv (.t 3), some 21, none⟩,
  ⟨.aaddr 16 1 (.t 1) (.t 20), some 22, none⟩,
  ⟨.store 1 (.t 22) (.t 21), none, none⟩]
def J1J : Jh := .reg false [] [⟨.bin .add .plain (.t 4) (.c (.p (.i .i64 1))), some 23, none⟩,
  ⟨.mv (.t 23), some 4, none⟩]
def J0d : Jh := .seq (.reg false [] [⟨.bin .lss .plain (.t 4) (.c (.p (.i .i64 16))), some 5, none⟩])
 (.seq (.cond (.t 5)
 (.skip)
 (.exit 0))
 (.seq (.block 1 (.seq (.reg false [] [⟨.mv (.t 4), some 6, none⟩,
  ⟨.mv (.t 6), some 2, none⟩])
 (.seq (.reg false [] [⟨.mv (.t 2), some 7, none⟩,
  ⟨.conv (.int .u32) (.t 7), some 8, none⟩,
  ⟨.mv (.t 8), some 3, none⟩])
 (.keep [0, 1, 2, 3, 4] (.seq (.seq (.reg false [] [⟨.mv (.c (.p (.i .i64 0))), some 9, none⟩])
 (.block 2 (.loop [0, 1, 2, 3, 4, 9] J0U)))
 (.keep [0, 1, 2, 3, 4] J2j))))))
 (.keep [0, 1, 4] J1J)))
def J0i : Jh := .seq (.reg false [] [⟨.load true 16 (.t 1), some 24, none⟩,
  ⟨.store 16 (.t 0) (.t 24), none, none⟩])
 (.ret)
def J5B : Jh := .seq (.reg false [] [⟨.newbox (J08 (r_i .u32) (Vector.replicate 16 (0 : Int))), some 0, none⟩])
 (.seq (.reg false [] [⟨.newbox (J08 (r_i .u32) (Vector.replicate 16 (0 : Int))), some 1, none⟩])
 (.seq (.seq (.reg false [] [⟨.mv (.c (.p (.i .i64 0))), some 4, none⟩])
 (.block 0 (.loop [0, 1, 4] J0d)))
 (.keep [0, 1] J0i)))
def J05 : AFn := ⟨0, 25, J5B, [.cell 0 true 16], false⟩
def J6A : Jh := .seq (.reg false [] [⟨.box 3 (.t 0), some 2, none⟩,
  ⟨.mv (.c (.p (.i .i64 0))), some 4, none⟩])
 (.seq (.reg false [] [⟨.faddr 0 (.t 2), some 5, none⟩,
  ⟨.load false 1 (.t 5), some 6, none⟩,
  ⟨.mv (.t 1), some 7, none⟩,
  ⟨.bin .sub .plain (.t 6) (.t 7), some 8, none⟩,
  ⟨.mv (.t 8), some 4, none⟩])
 (.ret))
def J5f : AFn := ⟨2, 9, J6A, [.tmp 4], false⟩
def J2C : Jh := .seq (.reg false [] [⟨.box 2 (.t 0), some 1, none⟩,
  ⟨.mv (.c (.p (.b false))), some 2, none⟩])
 (.seq (.reg false [] [⟨.faddr 1 (.t 1), some 3, none⟩,
  ⟨.load false 1 (.t 3), some 4, none⟩,
  ⟨.len true (.t 4), some 5, none⟩,
  ⟨.bin .leq .plain (.t 5) (.c (.p (.i .i64 12))), some 6, none⟩,
  ⟨.mv (.t 6), some 7, none⟩,
  ⟨.faddr 0 (.t 1), some 8, some (7, true)⟩,
  ⟨.load false 1 (.t 8), some 9, some (7, true)⟩,
  ⟨.mv (.t 9), some 10, some (7, true)⟩,
  ⟨.faddr 1 (.t 1), some 11, some (10, false)⟩,
  ⟨.load false 1 (.t 11), some 12, some (10, false)⟩,
  ⟨.bin .eql .plain (.t 12) (.c (.p (.s []))), some 13, some (10, false)⟩,
  ⟨.pick (.t 10) (.c (.p (.b true))) (.t 13), some 14, some (7, true)⟩,
  ⟨.pick (.t 7) (.t 14) (.c (.p (.b false))), some 15, none⟩,
  ⟨.mv (.t 15), some 2, none⟩])
 (.ret))
def J4H : AFn := ⟨1, 16, J2C, [.tmp 2], false⟩
def J8D : Jh := .seq (.reg false [] [⟨.mv (.c (.p (.i .i64 0))), some 6, none⟩])
 (.seq (.reg false [] [⟨.mv (.t 0), some 10, none⟩,
  ⟨.mv (.t 1), some 11, none⟩,
  ⟨.mv (.t 2), some 12, none⟩,
  ⟨.call J8Q [(.t 10), (.t 11), (.t 12)] 0, some 13, none⟩,
  ⟨.mv (.t 13), some 9, none⟩,
  ⟨.extr (.t 9) 0, some 14, none⟩,
  ⟨.extr (.t 9) 1, some 15, none⟩,
  ⟨.mv (.t 14), some 7, none⟩,
  ⟨.mv (.t 15), some 8, none⟩])
 (.keep [7] (.seq (.reg false [] [⟨.mv (.t 7), some 16, none⟩,
  ⟨.mv (.t 16), some 6, none⟩])
 (.ret))))
def J6U : AFn := ⟨3, 17, J8D, [.tmp 6], false⟩
def J20 : Jh := .seq (.reg false [] [⟨.bin .lss .plain (.t 13) (.c (.p (.i .i64 16))), some 14, none⟩])
 (.seq (.cond (.t 14)
 (.skip)
 (.exit 0))
 (.seq (.block 1 (.seq (.reg false [] [⟨.mv (.t 13), some 15, none⟩,
  ⟨.mv (.t 15), some 5, none⟩])
 (.seq (.reg false [] [⟨.mv (.t 5), some 16, none⟩,
  ⟨.bin .mul .plain (.t 16) (.c (.p (.i .i64 13))), some 17, none⟩,
  ⟨.bin .add .plain (.c (.p (.i .i64 12))) (.t 17), some 18, none⟩,
  ⟨.mv (.t 18), some 6, none⟩])
 (.keep [0, 2, 4, 5, 6, 13] (.seq (.reg false [] [⟨.mv (.t 0), some 19, none⟩,
  ⟨.mv (.t 6), some 20, none⟩,
  ⟨.call J3U [(.t 19), (.t 20), (.c (.p (.i .i64 1)))] 0, some 21, none⟩,
  ⟨.mv (.t 21), some 7, none⟩])
 (.keep [0, 2, 4, 5, 6, 7, 13] (.block 2 (.seq (.reg false [] [⟨.mv (.t 7), some 35, none⟩,
  ⟨.bin .eql .plain (.t 35) (.c (.p (.i .i64 255))), some 36, none⟩,
  ⟨.mv (.t 36), some 34, none⟩])
 (.keep [0, 2, 4, 5, 6, 7, 13, 34] (.cond (.t 34)
 (.skip)
 (.seq (.reg false [] [⟨.mv (.t 7), some 38, none⟩,
   ⟨.bin .gtr .plain (.t 38) (.c (.p (.i .i64 12))), some 39, none⟩,
   ⟨.mv (.t 39), some 37, none⟩])
  (.keep [0, 2, 4, 5, 6, 7, 13, 37] (.cond (.t 37)
  (.seq (.reg false [] [⟨.build (J5 default) [], some 40, none⟩,
    ⟨.store 34 (.t 2) (.t 40), none, none⟩,
    ⟨.mv (.c (.p (.b false))), some 3, none⟩])
   (.ret))
  (.reg false [] [⟨.mv (.t 5), some 22, none⟩,
    ⟨.mv (.t 0), some 23, none⟩,
    ⟨.mv (.t 6), some 24, none⟩,
    ⟨.bin .add .plain (.t 24) (.c (.p (.i .i64 1))), some 25, none⟩,
    ⟨.mv (.t 6), some 26, none⟩,
    ⟨.bin .add .plain (.t 26) (.c (.p (.i .i64 1))), some 27, none⟩,
    ⟨.mv (.t 7), some 28, none⟩,
    ⟨.bin .add .plain (.t 27) (.t 28), some 29, none⟩,
    ⟨.slice .str (.t 23) (some (.t 25)) (some (.t 29)) none, some 30, none⟩,
    ⟨.build (Ji default) [(0, 1, (.c (.p (.b true)))), (1, 1, (.t 30))], some 31, none⟩,
    ⟨.faddr 2 (.t 4), some 32, none⟩,
    ⟨.aaddr 16 2 (.t 32) (.t 22), some 33, none⟩,
    ⟨.store 2 (.t 33) (.t 31), none, none⟩]))))))))))))))
 (.reg false [] [⟨.bin .add .plain (.t 13) (.c (.p (.i .i64 1))), some 41, none⟩,
  ⟨.mv (.t 41), some 13, none⟩])))
def J5U : Jh := .seq (.reg false [] [⟨.load true 34 (.t 4), some 42, none⟩,
  ⟨.store 34 (.t 2) (.t 42), none, none⟩,
  ⟨.mv (.c (.p (.b true))), some 3, none⟩])
 (.ret)
def Ja4 : Jh := .seq (.reg false [] [⟨.newbox (J5 default), some 2, none⟩,
  ⟨.mv (.c (.p (.b false))), some 3, none⟩])
 (.seq (.reg false [] [⟨.mv (.t 0), some 8, none⟩,
  ⟨.call J3U [(.t 8), (.c (.p (.i .i64 8))), (.c (.p (.i .i64 4)))] 0, some 9, none⟩,
  ⟨.mv (.t 0), some 10, none⟩,
  ⟨.call J3U [(.t 10), (.c (.p (.i .i64 0))), (.c (.p (.i .i64 8)))] 0, some 11, none⟩,
  ⟨.build (J5 default) [(0, 1, (.t 9)), (1, 1, (.t 11))], some 12, none⟩,
  ⟨.newbox (J5 default), some 4, none⟩,
  ⟨.store 34 (.t 4) (.t 12), none, none⟩])
 (.keep [0, 2, 4] (.seq (.seq (.reg false [] [⟨.mv (.c (.p (.i .i64 0))), some 13, none⟩])
 (.block 0 (.loop [0, 2, 4, 13] J20)))
 (.keep [2, 4] J5U))))
def J3G : AFn := ⟨1, 43, Ja4, [.cell 2 true 34, .tmp 3], false⟩
def J17 : Jh := .seq (.reg false [] [⟨.mv (.c (.p (.s []))), some 4, none⟩])
 (.seq (.seq (.reg false [] [⟨.mv (.t 1), some 6, none⟩,
  ⟨.len true (.t 6), some 7, none⟩,
  ⟨.bin .eql .plain (.t 7) (.c (.p (.i .i64 0))), some 8, none⟩])
 (.keep [0, 1, 8] (.cond (.t 8)
 (.seq (.reg false [] [⟨.mv (.t 0), some 9, none⟩,
   ⟨.call Jc [(.t 9), (.c (.p (.i .i64 256)))] 0, some 10, none⟩,
   ⟨.conv (.int .u8) (.t 10), some 11, none⟩,
   ⟨.lits false 1 1 [(.i .u8 0)] [(0, (.t 11))], some 12, none⟩,
   ⟨.conv .toStr (.t 12), some 13, none⟩,
   ⟨.mv (.t 13), some 4, none⟩])
  (.ret))
 (.skip))))
 (.seq (.reg false [] [⟨.mv (.t 0), some 14, none⟩,
  ⟨.mv (.t 1), some 15, none⟩,
  ⟨.len true (.t 15), some 16, none⟩,
  ⟨.call Jc [(.t 14), (.t 16)] 0, some 17, none⟩,
  ⟨.mv (.t 17), some 5, none⟩])
 (.keep [0, 1, 5] (.seq (.seq (.reg false [] [⟨.mv (.t 0), some 18, none⟩,
  ⟨.call Jc [(.t 18), (.c (.p (.i .i64 4)))] 0, some 19, none⟩])
 (.block 0 (.seq (.reg false [] [⟨.bin .eql .plain (.t 19) (.c (.p (.i .i64 0))), some 21, none⟩,
  ⟨.mv (.t 21), some 20, none⟩])
 (.cond (.t 20)
 (.seq (.reg true [] [⟨.mv (.t 1), some 22, none⟩,
   ⟨.mv (.t 5), some 23, none⟩,
   ⟨.slice .str (.t 22) none (some (.t 23)) none, some 24, none⟩,
   ⟨.mv (.t 1), some 25, none⟩,
   ⟨.mv (.t 5), some 26, none⟩,
   ⟨.bin .add .plain (.t 26) (.c (.p (.i .i64 1))), some 27, none⟩,
   ⟨.slice .str (.t 25) (some (.t 27)) none none, some 28, none⟩,
   ⟨.bin .add .plain (.t 24) (.t 28), some 29, none⟩,
   ⟨.mv (.t 29), some 4, none⟩])
  (.ret))
 (.seq (.reg false [] [⟨.bin .eql .plain (.t 19) (.c (.p (.i .i64 1))), some 31, none⟩,
   ⟨.mv (.t 31), some 30, none⟩])
  (.cond (.t 30)
  (.seq (.reg false [] [⟨.mv (.t 1), some 32, none⟩,
    ⟨.mv (.t 0), some 33, none⟩,
    ⟨.call Jc [(.t 33), (.c (.p (.i .i64 256)))] 0, some 34, none⟩,
    ⟨.conv (.int .u8) (.t 34), some 35, none⟩,
    ⟨.lits false 1 1 [(.i .u8 0)] [(0, (.t 35))], some 36, none⟩,
    ⟨.conv .toStr (.t 36), some 37, none⟩,
    ⟨.bin .add .plain (.t 32) (.t 37), some 38, none⟩,
    ⟨.mv (.t 38), some 4, none⟩])
   (.ret))
  (.skip)))))))
 (.seq (.reg true [] [⟨.mv (.t 1), some 39, none⟩,
  ⟨.mv (.t 5), some 40, none⟩,
  ⟨.slice .str (.t 39) none (some (.t 40)) none, some 41, none⟩,
  ⟨.mv (.t 1), some 42, none⟩,
  ⟨.mv (.t 5), some 43, none⟩,
  ⟨.sidx (.t 42) (.t 43), some 44, none⟩,
  ⟨.mv (.t 0), some 45, none⟩,
  ⟨.call Jc [(.t 45), (.c (.p (.i .i64 255)))] 0, some 46, none⟩,
  ⟨.bin .add .plain (.c (.p (.i .i64 1))) (.t 46), some 47, none⟩,
  ⟨.conv (.int .u8) (.t 47), some 48, none⟩,
  ⟨.bin .xor .plain (.t 44) (.t 48), some 49, none⟩,
  ⟨.lits false 1 1 [(.i .u8 0)] [(0, (.t 49))], some 50, none⟩,
  ⟨.conv .toStr (.t 50), some 51, none⟩,
  ⟨.bin .add .plain (.t 41) (.t 51), some 52, none⟩,
  ⟨.mv (.t 1), some 53, none⟩,
  ⟨.mv (.t 5), some 54, none⟩,
  ⟨.bin .add .plain (.t 54) (.c (.p (.i .i64 1))), some 55, none⟩,
  ⟨.slice .str (.t 53) (some (.t 55)) none none, some 56, none⟩,
  ⟨.bin .add .plain (.t 52) (.t 56), some 57, none⟩,
  ⟨.mv (.t 57), some 4, none⟩])
 (.ret))))))
def J3D : AFn := ⟨2, 58, J17, [.tmp 4], false⟩
def J1W : Jh := .seq (.seq (.reg false [] [⟨.mv (.t 6), some 23, none⟩,
  ⟨.bin .gtr .plain (.t 23) (.c (.p (.i .i64 0))), some 24, none⟩])
 (.cond (.t 24)
 (.skip)
 (.exit 0)))
 (.seq (.block 1 (.reg false [] [⟨.mv (.t 0), some 27, none⟩,
  ⟨.call Jc [(.t 27), (.c (.p (.i .i64 16)))] 0, some 28, none⟩,
  ⟨.mv (.t 0), some 29, none⟩,
  ⟨.call J4M [(.t 29)] 0, some 30, none⟩,
  ⟨.faddr 2 (.t 5), some 31, none⟩,
  ⟨.aaddr 16 2 (.t 31) (.t 28), some 32, none⟩,
  ⟨.store 2 (.t 32) (.t 30), none, none⟩]))
 (.reg false [] [⟨.mv (.t 6), some 25, none⟩,
  ⟨.bin .sub .plain (.t 25) (.c (.p (.i .i64 1))), some 26, none⟩,
  ⟨.mv (.t 26), some 6, none⟩]))
def J2E : Jh := .seq (.reg false [] [⟨.load true 34 (.t 5), some 33, none⟩,
  ⟨.store 34 (.t 4) (.t 33), none, none⟩])
 (.ret)
def J6D : Jh := .seq (.seq (.reg false [] [⟨.faddr 1 (.t 5), some 18, none⟩,
  ⟨.load false 1 (.t 18), some 19, none⟩,
  ⟨.bin .gtr .plain (.t 19) (.c (.p (.i .i64 0))), some 20, none⟩])
 (.keep [0, 4, 5, 20] (.cond (.t 20)
 (.seq (.reg false [] [⟨.mv (.t 0), some 21, none⟩,
   ⟨.call Jc [(.t 21), (.c (.p (.i .i64 6)))] 0, some 22, none⟩,
   ⟨.mv (.t 22), some 6, none⟩])
  (.keep [0, 4, 5, 6] (.block 0 (.loop [0, 4, 5, 6] J1W))))
 (.skip))))
 (.keep [4, 5] J2E)
def J3k : Jh := .seq (.reg false [] [⟨.newbox (J5 default), some 4, none⟩])
 (.seq (.reg false [] [⟨.mv (.t 1), some 7, none⟩,
  ⟨.mv (.t 0), some 8, none⟩,
  ⟨.call Jc [(.t 8), (.c (.p (.i .i64 50)))] 0, some 9, none⟩,
  ⟨.build (J5 default) [(0, 1, (.t 7)), (1, 1, (.t 9))], some 10, none⟩,
  ⟨.newbox (J5 default), some 5, none⟩,
  ⟨.store 34 (.t 5) (.t 10), none, none⟩])
 (.keep [0, 4, 5] (.seq (.seq (.reg false [] [⟨.mv (.t 0), some 11, none⟩,
  ⟨.call Jc [(.t 11), (.c (.p (.i .i64 10)))] 0, some 12, none⟩,
  ⟨.bin .eql .plain (.t 12) (.c (.p (.i .i64 9))), some 13, none⟩])
 (.keep [0, 4, 5, 13] (.cond (.t 13)
 (.reg false [] [⟨.mv (.t 0), some 14, none⟩,
   ⟨.call Jc [(.t 14), (.c (.p (.i .i64 2)))] 0, some 15, none⟩,
   ⟨.bin .sub .plain (.c (.p (.i .i64 1099511627776))) (.t 15), some 16, none⟩,
   ⟨.faddr 1 (.t 5), some 17, none⟩,
   ⟨.store 1 (.t 17) (.t 16), none, none⟩])
 (.skip))))
 (.keep [0, 4, 5] J6D))))
def J0Q : AFn := ⟨2, 34, J3k, [.cell 4 true 34], false⟩
def J8B : Jh := .seq (.reg false [] [⟨.mv (.c (.p (.s []))), some 0, none⟩])
 (.seq (.reg false [] [⟨.call J3P [(.c (.p (.i .i64 256)))] 0, some 1, none⟩,
  ⟨.mv (.t 1), some 0, none⟩])
 (.ret))
def J6M : AFn := ⟨0, 2, J8B, [.tmp 0], false⟩
def J9a : Jh := .seq (.reg false [] [⟨.mv (.c (.p (.s []))), some 0, none⟩])
 (.seq (.reg false [] [⟨.call J2i [(.c (.p (.s [0]))), (.c (.p (.i .i64 256)))] 0, some 1, none⟩,
  ⟨.mv (.t 1), some 0, none⟩])
 (.ret))
def J7K : AFn := ⟨0, 2, J9a, [.tmp 0], false⟩
def J5t : Jh := .seq (.reg false [] [⟨.box 3 (.t 0), some 2, none⟩,
  ⟨.box 3 (.t 1), some 3, none⟩,
  ⟨.mv (.c (.p (.b false))), some 4, none⟩])
 (.keep [2, 3] (.seq (.reg false [] [⟨.faddr 0 (.t 2), some 5, none⟩,
  ⟨.load false 1 (.t 5), some 6, none⟩,
  ⟨.faddr 0 (.t 3), some 7, none⟩,
  ⟨.load false 1 (.t 7), some 8, none⟩,
  ⟨.bin .eql .plain (.t 6) (.t 8), some 9, none⟩,
  ⟨.mv (.t 9), some 10, none⟩,
  ⟨.faddr 1 (.t 2), some 11, some (10, true)⟩,
  ⟨.load false 1 (.t 11), some 12, some (10, true)⟩,
  ⟨.faddr 1 (.t 3), some 13, some (10, true)⟩,
  ⟨.load false 1 (.t 13), some 14, some (10, true)⟩,
  ⟨.bin .eql .plain (.t 12) (.t 14), some 15, some (10, true)⟩,
  ⟨.pick (.t 10) (.t 15) (.c (.p (.b false))), some 16, none⟩,
  ⟨.mv (.t 16), some 17, none⟩,
  ⟨.faddr 2 (.t 2), some 18, some (17, true)⟩,
  ⟨.load false 1 (.t 18), some 19, some (17, true)⟩,
  ⟨.faddr 2 (.t 3), some 20, some (17, true)⟩,
  ⟨.load false 1 (.t 20), some 21, some (17, true)⟩,
  ⟨.call J0L [(.t 19), (.t 21)] 0, some 22, some (17, true)⟩,
  ⟨.pick (.t 17) (.t 22) (.c (.p (.b false))), some 23, none⟩,
  ⟨.mv (.t 23), some 4, none⟩])
 (.ret)))
def J80 : AFn := ⟨2, 24, J5t, [.tmp 4], false⟩
def J3Q : Jh := .seq (.reg false [] [⟨.box 34 (.t 0), some 1, none⟩,
  ⟨.mv (.c (.p (.b false))), some 2, none⟩])
 (.seq (.reg false [] [⟨.faddr 0 (.t 1), some 3, none⟩,
  ⟨.load false 1 (.t 3), some 4, none⟩,
  ⟨.call J6r [(.t 4)] 0, some 5, none⟩,
  ⟨.mv (.t 5), some 6, none⟩,
  ⟨.faddr 1 (.t 1), some 7, some (6, true)⟩,
  ⟨.load false 1 (.t 7), some 8, some (6, true)⟩,
  ⟨.bin .geq .plain (.t 8) (.c (.p (.i .i64 0))), some 9, some (6, true)⟩,
  ⟨.pick (.t 6) (.t 9) (.c (.p (.b false))), some 10, none⟩,
  ⟨.mv (.t 10), some 11, none⟩,
  ⟨.faddr 1 (.t 1), some 12, some (11, true)⟩,
  ⟨.load false 1 (.t 12), some 13, some (11, true)⟩,
  ⟨.bin .leq .plain (.t 13) (.c (.p (.i .i64 1099511627776))), some 14, some (11, true)⟩,
  ⟨.pick (.t 11) (.t 14) (.c (.p (.b false))), some 15, none⟩,
  ⟨.mv (.t 15), some 2, none⟩])
 (.ret))
def J6J : AFn := ⟨1, 16, J3Q, [.tmp 2], false⟩
def J85 : Jh := .reg true [(6, 8), (6, 11), (8, 14)] [⟨.mv (.t 0), some 10, none⟩,
  ⟨.mv (.t 0), some 11, none⟩,
  ⟨.nilchk (.t 11), some 12, none⟩,
  ⟨.faddr 0 (.t 12), some 13, none⟩,
  ⟨.load false 1 (.t 13), some 14, none⟩,
  ⟨.mv (.t 4), some 15, none⟩,
  ⟨.call J1w [(.t 14), (.t 15), (.c (.p (.i .i64 1)))] 0, some 16, none⟩,
  ⟨.faddr 1 (.t 3), some 17, none⟩,
  ⟨.load false 1 (.t 17), some 18, none⟩,
  ⟨.bin .add .plain (.t 16) (.t 18), some 19, none⟩,
  ⟨.faddr 1 (.t 3), some 20, none⟩,
  ⟨.load false 1 (.t 20), some 21, none⟩,
  ⟨.len true (.t 21), some 22, none⟩,
  ⟨.bin .sub .plain (.c (.p (.i .i64 12))) (.t 22), some 23, none⟩,
  ⟨.call J2i [(.c (.p (.s [0]))), (.t 23)] 0, some 24, none⟩,
  ⟨.bin .add .plain (.t 19) (.t 24), some 25, none⟩,
  ⟨.nilchk (.t 10), some 26, none⟩,
  ⟨.faddr 0 (.t 26), some 27, none⟩,
  ⟨.store 1 (.t 27) (.t 25), none, none⟩]
def J3A : Jh := .seq (.reg false [] [⟨.box 2 (.t 1), some 3, none⟩])
 (.seq (.reg false [] [⟨.mv (.c (.p (.i .i64 255))), some 4, none⟩])
 (.seq (.seq (.reg false [] [⟨.faddr 0 (.t 3), some 5, none⟩,
  ⟨.load false 1 (.t 5), some 6, none⟩])
 (.cond (.t 6)
 (.reg false [] [⟨.faddr 1 (.t 3), some 7, none⟩,
   ⟨.load false 1 (.t 7), some 8, none⟩,
   ⟨.len true (.t 8), some 9, none⟩,
   ⟨.mv (.t 9), some 4, none⟩])
 (.skip)))
 (.keep [0, 3, 4] J85)))
def J2D : AFn := ⟨2, 28, J3A, [], false⟩
def J4R : Jh := .seq (.reg false [] [⟨.bin .lss .plain (.t 9) (.t 8), some 10, none⟩])
 (.seq (.cond (.t 10)
 (.skip)
 (.exit 0))
 (.seq (.block 1 (.seq (.reg false [] [⟨.mv (.t 9), some 11, none⟩,
  ⟨.mv (.t 11), some 5, none⟩])
 (.seq (.reg false [] [⟨.mv (.t 4), some 12, none⟩,
  ⟨.mv (.t 0), some 13, none⟩,
  ⟨.mv (.t 5), some 14, none⟩,
  ⟨.sidx (.t 13) (.t 14), some 15, none⟩,
  ⟨.conv (.int .u32) (.t 15), some 16, none⟩,
  ⟨.bin .xor .plain (.t 12) (.t 16), some 17, none⟩,
  ⟨.mv (.t 17), some 4, none⟩])
 (.keep [0, 3, 4, 8, 9] (.seq (.reg false [] [⟨.mv (.t 4), some 18, none⟩,
  ⟨.bin .shr .plain (.t 18) (.c (.p (.i .u64 4))), some 19, none⟩,
  ⟨.mv (.t 4), some 20, none⟩,
  ⟨.bin .and .plain (.t 20) (.c (.p (.i .u32 15))), some 21, none⟩,
  ⟨.aaddr 16 1 (.t 3) (.t 21), some 22, none⟩,
  ⟨.load false 1 (.t 22), some 23, none⟩,
  ⟨.bin .xor .plain (.t 19) (.t 23), some 24, none⟩,
  ⟨.mv (.t 24), some 4, none⟩])
 (.keep [0, 3, 4, 8, 9] (.reg false [] [⟨.mv (.t 4), some 25, none⟩,
  ⟨.bin .shr .plain (.t 25) (.c (.p (.i .u64 4))), some 26, none⟩,
  ⟨.mv (.t 4), some 27, none⟩,
  ⟨.bin .and .plain (.t 27) (.c (.p (.i .u32 15))), some 28, none⟩,
  ⟨.aaddr 16 1 (.t 3) (.t 28), some 29, none⟩,
  ⟨.load false 1 (.t 29), some 30, none⟩,
  ⟨.bin .xor .plain (.t 26) (.t 30), some 31, none⟩,
  ⟨.mv (.t 31), some 4, none⟩])))))))
 (.reg false [] [⟨.bin .add .plain (.t 9) (.c (.p (.i .i64 1))), some 32, none⟩,
  ⟨.mv (.t 32), some 9, none⟩])))
def J5H : Jh := .seq (.reg false [] [⟨.mv (.t 4), some 33, none⟩,
  ⟨.un .xor (.t 33), some 34, none⟩,
  ⟨.mv (.t 34), some 2, none⟩])
 (.ret)
def Ja5 : Jh := .seq (.reg false [] [⟨.mv (.c (.p (.i .u32 0))), some 2, none⟩])
 (.seq (.reg false [] [⟨.call J49 [] 0, some 6, none⟩,
  ⟨.newbox (J08 (r_i .u32) (Vector.replicate 16 (0 : Int))), some 3, none⟩,
  ⟨.store 16 (.t 3) (.t 6), none, none⟩])
 (.keep [0, 3] (.seq (.reg false [] [⟨.mv (.c (.p (.i .u32 4294967295))), some 4, none⟩])
 (.seq (.seq (.reg false [] [⟨.mv (.t 0), some 7, none⟩,
  ⟨.len true (.t 7), some 8, none⟩,
  ⟨.mv (.c (.p (.i .i64 0))), some 9, none⟩])
 (.keep [0, 3, 4, 8, 9] (.block 0 (.loop [0, 3, 4, 8, 9] J4R))))
 (.keep [4] J5H)))))
def J3J : AFn := ⟨1, 35, Ja5, [.tmp 2], false⟩
def Jw : Jh := .seq (.seq (.reg false [] [⟨.mv (.t 9), some 15, none⟩,
  ⟨.mv (.t 10), some 16, none⟩,
  ⟨.bin .lss .plain (.t 15) (.t 16), some 17, none⟩])
 (.keep [0, 1, 2, 8, 9, 10, 17] (.cond (.t 17)
 (.skip)
 (.exit 0))))
 (.block 1 (.seq (.reg false [] [⟨.mv (.t 9), some 18, none⟩,
  ⟨.mv (.t 10), some 19, none⟩,
  ⟨.bin .add .plain (.t 18) (.t 19), some 20, none⟩,
  ⟨.conv (.int .u64) (.t 20), some 21, none⟩,
  ⟨.bin .shr .plain (.t 21) (.c (.p (.i .u64 1))), some 22, none⟩,
  ⟨.conv (.int .i64) (.t 22), some 23, none⟩,
  ⟨.mv (.t 23), some 11, none⟩])
 (.keep [0, 1, 2, 8, 9, 10, 11] (.seq (.reg false [] [⟨.mv (.t 2), some 24, none⟩,
  ⟨.mv (.t 0), some 25, none⟩,
  ⟨.mv (.t 11), some 26, none⟩,
  ⟨.iaddr 3 (.t 25) (.t 26), some 27, none⟩,
  ⟨.load true 3 (.t 27), some 28, none⟩,
  ⟨.mv (.t 1), some 29, none⟩,
  ⟨.callv (.t 24) [(.t 28), (.t 29)] 0, some 30, none⟩,
  ⟨.bin .lss .plain (.t 30) (.c (.p (.i .i64 0))), some 31, none⟩])
 (.keep [0, 1, 2, 8, 9, 10, 11, 31] (.cond (.t 31)
 (.reg false [] [⟨.mv (.t 11), some 32, none⟩,
   ⟨.bin .add .plain (.t 32) (.c (.p (.i .i64 1))), some 33, none⟩,
   ⟨.mv (.t 33), some 9, none⟩])
 (.reg false [] [⟨.mv (.t 11), some 34, none⟩,
   ⟨.mv (.t 34), some 10, none⟩])))))))
def JF : Jh := .seq (.reg false [] [⟨.mv (.t 9), some 35, none⟩,
  ⟨.mv (.t 9), some 36, none⟩,
  ⟨.mv (.t 8), some 37, none⟩,
  ⟨.bin .lss .plain (.t 36) (.t 37), some 38, none⟩,
  ⟨.mv (.t 38), some 39, none⟩,
  ⟨.mv (.t 2), some 40, some (39, true)⟩,
  ⟨.mv (.t 0), some 41, some (39, true)⟩,
  ⟨.mv (.t 9), some 42, some (39, true)⟩,
  ⟨.iaddr 3 (.t 41) (.t 42), some 43, some (39, true)⟩,
  ⟨.load true 3 (.t 43), some 44, some (39, true)⟩,
  ⟨.mv (.t 1), some 45, some (39, true)⟩,
  ⟨.callv (.t 40) [(.t 44), (.t 45)] 0, some 46, some (39, true)⟩,
  ⟨.bin .eql .plain (.t 46) (.c (.p (.i .i64 0))), some 47, some (39, true)⟩,
  ⟨.pick (.t 39) (.t 47) (.c (.p (.b false))), some 48, none⟩,
  ⟨.mv (.t 35), some 6, none⟩,
  ⟨.mv (.t 48), some 7, none⟩])
 (.ret)
def J0h : Jh := .seq (.reg false [] [⟨.mv (.c (.p (.i .i64 0))), some 6, none⟩,
  ⟨.mv (.c (.p (.b false))), some 7, none⟩])
 (.seq (.reg false [] [⟨.mv (.t 0), some 12, none⟩,
  ⟨.len false (.t 12), some 13, none⟩,
  ⟨.mv (.t 13), some 8, none⟩])
 (.keep [0, 1, 2, 8] (.seq (.reg false [] [⟨.mv (.t 8), some 14, none⟩,
  ⟨.mv (.c (.p (.i .i64 0))), some 9, none⟩,
  ⟨.mv (.t 14), some 10, none⟩])
 (.keep [0, 1, 2, 8, 9, 10] (.seq (.block 0 (.loop [0, 1, 2, 8, 9, 10] Jw))
 (.keep [0, 1, 2, 8, 9] JF))))))
def Jr : AFn := ⟨3, 49, J0h, [.tmp 6, .tmp 7], false⟩
def J8x : Jh := .seq (.reg false [] [⟨.box 3 (.t 0), some 2, none⟩,
  ⟨.mv (.c (.p (.i .i64 0))), some 4, none⟩,
  ⟨.mv (.c (.p (.b false))), some 5, none⟩])
 (.keep [1, 2] (.seq (.reg false [] [⟨.faddr 2 (.t 2), some 6, none⟩,
  ⟨.load false 1 (.t 6), some 7, none⟩,
  ⟨.mv (.t 1), some 8, none⟩,
  ⟨.call J01 [(.t 7), (.t 8), (.c (.fn J0o [] []))] 0, some 9, none⟩,
  ⟨.extr (.t 9) 0, some 10, none⟩,
  ⟨.extr (.t 9) 1, some 11, none⟩,
  ⟨.mv (.t 10), some 4, none⟩,
  ⟨.mv (.t 11), some 5, none⟩])
 (.ret)))
def J6Z : AFn := ⟨2, 12, J8x, [.tmp 4, .tmp 5], false⟩
def J0H : Jh := .seq (.seq (.reg false [] [⟨.mv (.t 3), some 4, none⟩,
  ⟨.bin .lss .plain (.t 4) (.c (.p (.i .i64 16))), some 5, none⟩])
 (.cond (.t 5)
 (.skip)
 (.exit 0)))
 (.seq (.block 1 (.seq (.reg false [] [⟨.mv (.t 3), some 8, none⟩,
  ⟨.faddr 2 (.t 1), some 9, none⟩,
  ⟨.aaddr 16 2 (.t 9) (.t 8), some 10, none⟩,
  ⟨.load true 2 (.t 10), some 11, none⟩,
  ⟨.call J4K [(.t 11)] 0, some 12, none⟩,
  ⟨.un .not (.t 12), some 13, none⟩,
  ⟨.mv (.t 13), some 14, none⟩,
  ⟨.faddr 1 (.t 1), some 15, some (14, false)⟩,
  ⟨.load false 1 (.t 15), some 16, some (14, false)⟩,
  ⟨.bin .eql .plain (.t 16) (.c (.p (.i .i64 0))), some 17, some (14, false)⟩,
  ⟨.mv (.t 17), some 18, some (14, false)⟩,
  ⟨.mv (.t 3), some 19, some (18, true)⟩,
  ⟨.faddr 2 (.t 1), some 20, some (18, true)⟩,
  ⟨.aaddr 16 2 (.t 20) (.t 19), some 21, some (18, true)⟩,
  ⟨.faddr 0 (.t 21), some 22, some (18, true)⟩,
  ⟨.load false 1 (.t 22), some 23, some (18, true)⟩,
  ⟨.pick (.t 18) (.t 23) (.c (.p (.b false))), some 24, some (14, false)⟩,
  ⟨.pick (.t 14) (.c (.p (.b true))) (.t 24), some 25, none⟩])
 (.keep [1, 3, 25] (.cond (.t 25)
 (.seq (.reg false [] [⟨.mv (.c (.p (.b false))), some 2, none⟩])
  (.ret))
 (.skip)))))
 (.reg false [] [⟨.mv (.t 3), some 6, none⟩,
  ⟨.bin .add .plain (.t 6) (.c (.p (.i .i64 1))), some 7, none⟩,
  ⟨.mv (.t 7), some 3, none⟩]))
def J4v : Jh := .seq (.reg false [] [⟨.mv (.c (.p (.b true))), some 2, none⟩])
 (.ret)
def J8q : Jh := .seq (.reg false [] [⟨.box 34 (.t 0), some 1, none⟩,
  ⟨.mv (.c (.p (.b false))), some 2, none⟩])
 (.seq (.seq (.reg false [] [⟨.mv (.c (.p (.i .i64 0))), some 3, none⟩])
 (.block 0 (.loop [1, 3] J0H)))
 (.keep [] J4v))
def J2p : AFn := ⟨1, 26, J8q, [.tmp 2], false⟩
def J1Q : Jh := .seq (.reg false [] [⟨.box 3 (.t 1), some 3, none⟩,
  ⟨.newbox (J3 default), some 4, none⟩])
 (.seq (.reg false [] [⟨.faddr 2 (.t 3), some 6, none⟩,
  ⟨.load false 1 (.t 6), some 7, none⟩,
  ⟨.appn 3 32 (J4 default) (.t 7), some 8, none⟩,
  ⟨.faddr 2 (.t 3), some 9, none⟩,
  ⟨.store 1 (.t 9) (.t 8), none, none⟩])
 (.keep [0, 3, 4] (.seq (.seq (.reg false [] [⟨.faddr 2 (.t 3), some 10, none⟩,
  ⟨.load false 1 (.t 10), some 11, none⟩,
  ⟨.len false (.t 11), some 12, none⟩,
  ⟨.bin .eql .plain (.t 12) (.c (.p (.i .i64 0))), some 13, none⟩])
 (.keep [0, 3, 4, 13] (.cond (.t 13)
 (.seq (.reg false [] [⟨.mv (.t 0), some 14, none⟩,
   ⟨.call J2X [(.t 14)] 0, some 15, none⟩,
   ⟨.mv (.t 0), some 16, none⟩,
   ⟨.call J2X [(.t 16)] 0, some 17, none⟩,
   ⟨.faddr 0 (.t 3), some 18, none⟩,
   ⟨.store 1 (.t 18) (.t 15), none, none⟩,
   ⟨.faddr 1 (.t 3), some 19, none⟩,
   ⟨.store 1 (.t 19) (.t 17), none, none⟩])
  (.keep [3, 4] (.seq (.reg false [] [⟨.load true 3 (.t 3), some 20, none⟩,
   ⟨.store 3 (.t 4) (.t 20), none, none⟩])
  (.ret))))
 (.skip))))
 (.seq (.reg true [(1, 6)] [⟨.faddr 2 (.t 3), some 21, none⟩,
  ⟨.load false 1 (.t 21), some 22, none⟩,
  ⟨.mv (.t 0), some 23, none⟩,
  ⟨.faddr 2 (.t 3), some 24, none⟩,
  ⟨.load false 1 (.t 24), some 25, none⟩,
  ⟨.len false (.t 25), some 26, none⟩,
  ⟨.call Jc [(.t 23), (.t 26)] 0, some 27, none⟩,
  ⟨.iaddr 3 (.t 22) (.t 27), some 28, none⟩,
  ⟨.mv (.t 28), some 5, none⟩])
 (.keep [0, 3, 4, 5] (.seq (.seq (.reg false [] [⟨.mv (.t 0), some 29, none⟩,
  ⟨.call Jc [(.t 29), (.c (.p (.i .i64 4)))] 0, some 30, none⟩])
 (.block 0 (.seq (.reg false [] [⟨.bin .eql .plain (.t 30) (.c (.p (.i .i64 0))), some 32, none⟩,
  ⟨.mv (.t 32), some 31, none⟩])
 (.cond (.t 31)
 (.reg false [] [⟨.mv (.t 5), some 33, none⟩,
   ⟨.mv (.t 0), some 34, none⟩,
   ⟨.call Jc [(.t 34), (.c (.p (.i .i64 8)))] 0, some 35, none⟩,
   ⟨.bin .sub .plain (.t 35) (.c (.p (.i .i64 1))), some 36, none⟩,
   ⟨.nilchk (.t 33), some 37, none⟩,
   ⟨.faddr 0 (.t 37), some 38, none⟩,
   ⟨.store 1 (.t 38) (.t 36), none, none⟩])
 (.seq (.reg false [] [⟨.bin .eql .plain (.t 30) (.c (.p (.i .i64 1))), some 40, none⟩,
   ⟨.mv (.t 40), some 39, none⟩])
  (.cond (.t 39)
  (.reg false [] [⟨.mv (.t 5), some 41, none⟩,
    ⟨.nilchk (.t 41), some 42, none⟩,
    ⟨.faddr 1 (.t 42), some 43, none⟩,
    ⟨.load false 1 (.t 43), some 44, none⟩,
    ⟨.bin .add .plain (.t 44) (.c (.p (.i .i64 1))), some 45, none⟩,
    ⟨.nilchk (.t 41), some 46, none⟩,
    ⟨.faddr 1 (.t 46), some 47, none⟩,
    ⟨.store 1 (.t 47) (.t 45), none, none⟩])
  (.seq (.reg false [] [⟨.bin .eql .plain (.t 30) (.c (.p (.i .i64 2))), some 49, none⟩,
    ⟨.mv (.t 49), some 48, none⟩])
   (.cond (.t 48)
   (.reg false [] [⟨.mv (.t 5), some 50, none⟩,
     ⟨.mv (.t 0), some 51, none⟩,
     ⟨.mv (.t 5), some 52, none⟩,
     ⟨.nilchk (.t 52), some 53, none⟩,
     ⟨.faddr 2 (.t 53), some 54, none⟩,
     ⟨.load false 1 (.t 54), some 55, none⟩,
     ⟨.call J3z [(.t 51), (.t 55)] 0, some 56, none⟩,
     ⟨.nilchk (.t 50), some 57, none⟩,
     ⟨.faddr 2 (.t 57), some 58, none⟩,
     ⟨.store 1 (.t 58) (.t 56), none, none⟩])
   (.seq (.reg false [] [⟨.bin .eql .plain (.t 30) (.c (.p (.i .i64 3))), some 60, none⟩,
     ⟨.mv (.t 60), some 59, none⟩])
    (.cond (.t 59)
    (.reg false [] [⟨.mv (.t 0), some 61, none⟩,
      ⟨.call Jc [(.t 61), (.c (.p (.i .i64 8)))] 0, some 62, none⟩,
      ⟨.faddr 1 (.t 3), some 63, none⟩,
      ⟨.store 1 (.t 63) (.t 62), none, none⟩])
    (.skip)))))))))))
 (.seq (.reg false [] [⟨.load true 3 (.t 3), some 64, none⟩,
  ⟨.store 3 (.t 4) (.t 64), none, none⟩])
 (.ret))))))))
def J8L : AFn := ⟨2, 65, J1Q, [.cell 4 true 3], false⟩
def J3u : Jh := .seq (.reg false [] [⟨.bin .lss .plain (.t 29) (.c (.p (.i .i64 16))), some 30, none⟩])
 (.seq (.cond (.t 30)
 (.skip)
 (.exit 1))
 (.seq (.block 2 (.seq (.reg false [] [⟨.aidx true 16 2 (.t 28) (.t 29), some 31, none⟩,
  ⟨.newbox (Ji default), some 7, none⟩,
  ⟨.store 2 (.t 7) (.t 31), none, none⟩])
 (.keep [1, 4, 5, 7, 28, 29] (.reg false [] [⟨.mv (.t 5), some 32, none⟩,
  ⟨.load true 2 (.t 7), some 33, none⟩,
  ⟨.callv (.t 32) [(.t 33)] 0, some 34, none⟩]))))
 (.reg false [] [⟨.bin .add .plain (.t 29) (.c (.p (.i .i64 1))), some 35, none⟩,
  ⟨.mv (.t 35), some 29, none⟩])))
def J4o : Jh := .seq (.reg true [(3, 10)] [⟨.mv (.t 4), some 36, none⟩,
  ⟨.nilchk (.t 36), some 37, none⟩,
  ⟨.faddr 0 (.t 37), some 38, none⟩,
  ⟨.load false 1 (.t 38), some 39, none⟩,
  ⟨.mv (.t 4), some 40, none⟩,
  ⟨.nilchk (.t 40), some 41, none⟩,
  ⟨.faddr 0 (.t 41), some 42, none⟩,
  ⟨.load false 1 (.t 42), some 43, none⟩,
  ⟨.len true (.t 43), some 44, none⟩,
  ⟨.bin .sub .plain (.c (.p (.i .i64 244))) (.t 44), some 45, none⟩,
  ⟨.call J2i [(.c (.p (.s [0]))), (.t 45)] 0, some 46, none⟩,
  ⟨.bin .add .plain (.t 39) (.t 46), some 47, none⟩,
  ⟨.mv (.t 47), some 8, none⟩])
 (.keep [1, 8] (.seq (.reg true [(2, 6), (4, 6)] [⟨.mv (.t 8), some 48, none⟩,
  ⟨.mv (.t 8), some 49, none⟩,
  ⟨.call J5q [(.t 49)] 0, some 50, none⟩,
  ⟨.conv (.int .i64) (.t 50), some 51, none⟩,
  ⟨.call J1w [(.t 48), (.t 51), (.c (.p (.i .i64 4)))] 0, some 52, none⟩,
  ⟨.faddr 1 (.t 1), some 53, none⟩,
  ⟨.load false 1 (.t 53), some 54, none⟩,
  ⟨.call J1w [(.t 52), (.t 54), (.c (.p (.i .i64 8)))] 0, some 55, none⟩,
  ⟨.mv (.t 55), some 2, none⟩,
  ⟨.mv (.c (.p (.i .i64 0))), some 3, none⟩])
 (.ret)))
def J3X : Jh := .seq (.reg false [] [⟨.box 34 (.t 0), some 1, none⟩,
  ⟨.mv (.c (.p (.s []))), some 2, none⟩,
  ⟨.mv (.c (.p (.i .i64 0))), some 3, none⟩])
 (.keep [1] (.seq (.block 0 (.seq (.reg false [] [⟨.load true 34 (.t 1), some 10, none⟩,
  ⟨.call J7a [(.t 10)] 0, some 11, none⟩,
  ⟨.un .not (.t 11), some 12, none⟩,
  ⟨.mv (.t 12), some 9, none⟩])
 (.keep [1, 9] (.cond (.t 9)
 (.seq (.reg false [] [⟨.mv (.c (.p (.s []))), some 2, none⟩,
   ⟨.mv (.c (.p (.i .i64 1))), some 3, none⟩])
  (.ret))
 (.seq (.reg false [] [⟨.load true 34 (.t 1), some 14, none⟩,
   ⟨.call J88 [(.t 14)] 0, some 15, none⟩,
   ⟨.un .not (.t 15), some 16, none⟩,
   ⟨.mv (.t 16), some 13, none⟩])
  (.keep [1, 13] (.cond (.t 13)
  (.seq (.reg false [] [⟨.mv (.c (.p (.s []))), some 2, none⟩,
    ⟨.mv (.c (.p (.i .i64 22))), some 3, none⟩])
   (.ret))
  (.skip))))))))
 (.seq (.reg true [(2, 4)] [⟨.faddr 1 (.t 1), some 17, none⟩,
  ⟨.load false 1 (.t 17), some 18, none⟩,
  ⟨.call J1w [(.c (.p (.s []))), (.t 18), (.c (.p (.i .i64 8)))] 0, some 19, none⟩,
  ⟨.faddr 0 (.t 1), some 20, none⟩,
  ⟨.load false 1 (.t 20), some 21, none⟩,
  ⟨.call J1w [(.t 19), (.t 21), (.c (.p (.i .i64 4)))] 0, some 22, none⟩,
  ⟨.build (J0P default) [(0, 1, (.t 22))], some 23, none⟩,
  ⟨.box 1 (.t 23), some 24, none⟩,
  ⟨.mv (.t 24), some 4, none⟩])
 (.keep [1, 4] (.seq (.reg false [] [⟨.mv (.t 4), some 25, none⟩,
  ⟨.mkfn J15 [(.t 25)] [], some 26, none⟩,
  ⟨.mv (.t 26), some 5, none⟩])
 (.keep [1, 4, 5] (.seq (.tidy [1, 2, 3, 4] (.seq (.reg false [] [⟨.faddr 2 (.t 1), some 27, none⟩,
  ⟨.load true 32 (.t 27), some 28, none⟩,
  ⟨.mv (.c (.p (.i .i64 0))), some 29, none⟩])
 (.keep [1, 4, 5, 28, 29] (.block 1 (.loop [1, 4, 5, 28, 29] J3u)))))
 (.keep [1, 4] J4o))))))))
def J2r : AFn := ⟨1, 56, J3X, [.tmp 2, .tmp 3], false⟩
def J6N : Jh := .seq (.reg false [] [⟨.mv (.c (.p (.s []))), some 2, none⟩])
 (.seq (.seq (.reg false [] [⟨.mv (.t 0), some 4, none⟩,
  ⟨.len true (.t 4), some 5, none⟩,
  ⟨.bin .gtr .plain (.t 5) (.c (.p (.i .i64 8392))), some 6, none⟩])
 (.keep [0, 6] (.cond (.t 6)
 (.seq (.reg false [] [⟨.mv (.c (.p (.s []))), some 2, none⟩])
  (.ret))
 (.skip))))
 (.seq (.reg false [] [⟨.mv (.t 0), some 7, none⟩,
  ⟨.len true (.t 7), some 8, none⟩,
  ⟨.call J1w [(.c (.p (.s []))), (.t 8), (.c (.p (.i .i64 4)))] 0, some 9, none⟩,
  ⟨.mv (.t 0), some 10, none⟩,
  ⟨.bin .add .plain (.t 9) (.t 10), some 11, none⟩,
  ⟨.mv (.t 11), some 3, none⟩])
 (.keep [3] (.seq (.reg false [] [⟨.mv (.t 3), some 12, none⟩,
  ⟨.mv (.t 3), some 13, none⟩,
  ⟨.call J5q [(.t 13)] 0, some 14, none⟩,
  ⟨.conv (.int .i64) (.t 14), some 15, none⟩,
  ⟨.call J1w [(.t 12), (.t 15), (.c (.p (.i .i64 4)))] 0, some 16, none⟩,
  ⟨.mv (.t 16), some 2, none⟩])
 (.ret)))))
def J76 : AFn := ⟨1, 17, J6N, [.tmp 2], false⟩
def J3T : Jh := .seq (.reg false [] [⟨.box 34 (.t 0), some 1, none⟩,
  ⟨.mv (.c (.p (.i .i64 0))), some 2, none⟩])
 (.seq (.block 0 (.seq (.reg false [] [⟨.load true 34 (.t 1), some 4, none⟩,
  ⟨.call J5D [(.t 4)] 0, some 5, none⟩,
  ⟨.un .not (.t 5), some 6, none⟩,
  ⟨.mv (.t 6), some 3, none⟩])
 (.keep [1, 3] (.cond (.t 3)
 (.seq (.reg false [] [⟨.mv (.c (.p (.i .i64 1))), some 2, none⟩])
  (.ret))
 (.seq (.reg false [] [⟨.load true 34 (.t 1), some 8, none⟩,
   ⟨.call J79 [(.t 8)] 0, some 9, none⟩,
   ⟨.un .not (.t 9), some 10, none⟩,
   ⟨.mv (.t 10), some 7, none⟩])
  (.keep [7] (.cond (.t 7)
  (.seq (.reg false [] [⟨.mv (.c (.p (.i .i64 22))), some 2, none⟩])
   (.ret))
  (.skip))))))))
 (.seq (.reg false [] [⟨.mv (.c (.p (.i .i64 0))), some 2, none⟩])
 (.ret)))
def J77 : AFn := ⟨1, 11, J3T, [.tmp 2], false⟩
def J0t : Jh := .seq (.reg false [] [⟨.newbox (J5 default), some 2, none⟩,
  ⟨.mv (.c (.p (.i .i64 0))), some 3, none⟩])
 (.seq (.block 0 (.seq (.reg false [] [⟨.mv (.t 0), some 9, none⟩,
  ⟨.len true (.t 9), some 10, none⟩,
  ⟨.bin .neq .plain (.t 10) (.c (.p (.i .i64 256))), some 11, none⟩,
  ⟨.mv (.t 11), some 8, none⟩])
 (.keep [0, 2, 8] (.cond (.t 8)
 (.seq (.reg false [] [⟨.build (J5 default) [], some 12, none⟩,
   ⟨.store 34 (.t 2) (.t 12), none, none⟩,
   ⟨.mv (.c (.p (.i .i64 2))), some 3, none⟩])
  (.ret))
 (.seq (.reg false [] [⟨.mv (.t 0), some 14, none⟩,
   ⟨.call J7U [] 0, some 15, none⟩,
   ⟨.bin .eql .plain (.t 14) (.t 15), some 16, none⟩,
   ⟨.mv (.t 16), some 13, none⟩])
  (.keep [0, 2, 13] (.cond (.t 13)
  (.seq (.reg false [] [⟨.build (J5 default) [], some 17, none⟩,
    ⟨.store 34 (.t 2) (.t 17), none, none⟩,
    ⟨.mv (.c (.p (.i .i64 7))), some 3, none⟩])
   (.ret))
  (.seq (.reg true [] [⟨.mv (.t 0), some 19, none⟩,
    ⟨.slice .str (.t 19) none (some (.c (.p (.i .i64 8)))) none, some 20, none⟩,
    ⟨.mv (.t 0), some 21, none⟩,
    ⟨.slice .str (.t 21) (some (.c (.p (.i .i64 248)))) none none, some 22, none⟩,
    ⟨.bin .neq .plain (.t 20) (.t 22), some 23, none⟩,
    ⟨.mv (.t 23), some 18, none⟩])
   (.keep [0, 2, 18] (.cond (.t 18)
   (.seq (.reg false [] [⟨.build (J5 default) [], some 24, none⟩,
     ⟨.store 34 (.t 2) (.t 24), none, none⟩,
     ⟨.mv (.c (.p (.i .i64 27))), some 3, none⟩])
    (.ret))
   (.seq (.reg true [] [⟨.mv (.t 0), some 26, none⟩,
     ⟨.call J3U [(.t 26), (.c (.p (.i .i64 244))), (.c (.p (.i .i64 4)))] 0, some 27, none⟩,
     ⟨.mv (.t 0), some 28, none⟩,
     ⟨.slice .str (.t 28) none (some (.c (.p (.i .i64 244)))) none, some 29, none⟩,
     ⟨.call J5q [(.t 29)] 0, some 30, none⟩,
     ⟨.conv (.int .i64) (.t 30), some 31, none⟩,
     ⟨.bin .neq .plain (.t 27) (.t 31), some 32, none⟩,
     ⟨.mv (.t 32), some 25, none⟩])
    (.keep [0, 2, 25] (.cond (.t 25)
    (.seq (.reg false [] [⟨.build (J5 default) [], some 33, none⟩,
      ⟨.store 34 (.t 2) (.t 33), none, none⟩,
      ⟨.mv (.c (.p (.i .i64 3))), some 3, none⟩])
     (.ret))
    (.skip))))))))))))))
 (.seq (.reg false [] [⟨.mv (.t 0), some 35, none⟩,
  ⟨.call J8K [(.t 35)] 0, some 36, none⟩,
  ⟨.mv (.t 36), some 34, none⟩,
  ⟨.extr (.t 34) 0, some 37, none⟩,
  ⟨.extr (.t 34) 1, some 38, none⟩,
  ⟨.newbox (J5 default), some 4, none⟩,
  ⟨.store 34 (.t 4) (.t 37), none, none⟩,
  ⟨.mv (.t 38), some 5, none⟩])
 (.keep [0, 2, 4, 5] (.seq (.seq (.reg false [] [⟨.load true 34 (.t 4), some 40, none⟩,
  ⟨.call J75 [(.t 40)] 0, some 41, none⟩,
  ⟨.mv (.t 41), some 39, none⟩,
  ⟨.extr (.t 39) 0, some 42, none⟩,
  ⟨.extr (.t 39) 1, some 43, none⟩,
  ⟨.mv (.t 42), some 6, none⟩,
  ⟨.mv (.t 43), some 7, none⟩])
 (.keep [0, 2, 4, 5, 6, 7] (.seq (.reg false [] [⟨.mv (.t 5), some 44, none⟩,
  ⟨.un .not (.t 44), some 45, none⟩,
  ⟨.mv (.t 45), some 46, none⟩,
  ⟨.mv (.t 7), some 47, some (46, false)⟩,
  ⟨.bin .neq .plain (.t 47) (.c (.p (.i .i64 0))), some 48, some (46, false)⟩,
  ⟨.pick (.t 46) (.c (.p (.b true))) (.t 48), some 49, none⟩,
  ⟨.mv (.t 49), some 50, none⟩,
  ⟨.mv (.t 6), some 51, some (50, false)⟩,
  ⟨.mv (.t 0), some 52, some (50, false)⟩,
  ⟨.bin .neq .plain (.t 51) (.t 52), some 53, some (50, false)⟩,
  ⟨.pick (.t 50) (.c (.p (.b true))) (.t 53), some 54, none⟩])
 (.keep [2, 4, 54] (.cond (.t 54)
 (.seq (.reg false [] [⟨.build (J5 default) [], some 55, none⟩,
   ⟨.store 34 (.t 2) (.t 55), none, none⟩,
   ⟨.mv (.c (.p (.i .i64 4))), some 3, none⟩])
  (.ret))
 (.skip))))))
 (.seq (.reg false [] [⟨.load true 34 (.t 4), some 56, none⟩,
  ⟨.store 34 (.t 2) (.t 56), none, none⟩,
  ⟨.mv (.c (.p (.i .i64 0))), some 3, none⟩])
 (.ret))))))
def J6H : AFn := ⟨1, 57, J0t, [.cell 2 true 34, .tmp 3], false⟩
def Jax : Jh := .seq (.reg false [] [⟨.mv (.t 5), some 35, none⟩,
  ⟨.mv (.t 7), some 36, none⟩,
  ⟨.call J4h [(.t 35), (.t 36), (.c (.p (.i .i64 1)))] 0, some 37, none⟩,
  ⟨.mv (.t 37), some 5, none⟩])
 (.keep [1, 5, 6] (.reg true [(5, 13)] [⟨.mv (.t 5), some 38, none⟩,
  ⟨.mv (.t 6), some 39, none⟩,
  ⟨.faddr 2 (.t 1), some 40, none⟩,
  ⟨.aaddr 16 2 (.t 40) (.t 39), some 41, none⟩,
  ⟨.faddr 1 (.t 41), some 42, none⟩,
  ⟨.load false 1 (.t 42), some 43, none⟩,
  ⟨.mv (.t 6), some 44, none⟩,
  ⟨.faddr 2 (.t 1), some 45, none⟩,
  ⟨.aaddr 16 2 (.t 45) (.t 44), some 46, none⟩,
  ⟨.faddr 1 (.t 46), some 47, none⟩,
  ⟨.load false 1 (.t 47), some 48, none⟩,
  ⟨.len true (.t 48), some 49, none⟩,
  ⟨.bin .sub .plain (.c (.p (.i .i64 12))) (.t 49), some 50, none⟩,
  ⟨.call J3P [(.t 50)] 0, some 51, none⟩,
  ⟨.bin .add .plain (.t 43) (.t 51), some 52, none⟩,
  ⟨.bin .add .plain (.t 38) (.t 52), some 53, none⟩,
  ⟨.mv (.t 53), some 5, none⟩]))
def J8g : Jh := .reg false [] [⟨.mv (.t 6), some 22, none⟩,
  ⟨.bin .add .plain (.t 22) (.c (.p (.i .i64 1))), some 23, none⟩,
  ⟨.mv (.t 23), some 6, none⟩]
def J19 : Jh := .seq (.seq (.reg false [] [⟨.mv (.t 6), some 20, none⟩,
  ⟨.bin .lss .plain (.t 20) (.c (.p (.i .i64 16))), some 21, none⟩])
 (.cond (.t 21)
 (.skip)
 (.exit 0)))
 (.seq (.block 1 (.seq (.reg false [] [⟨.mv (.c (.p (.i .i64 255))), some 7, none⟩])
 (.seq (.seq (.reg false [] [⟨.mv (.t 6), some 24, none⟩,
  ⟨.faddr 2 (.t 1), some 25, none⟩,
  ⟨.aaddr 16 2 (.t 25) (.t 24), some 26, none⟩,
  ⟨.faddr 0 (.t 26), some 27, none⟩,
  ⟨.load false 1 (.t 27), some 28, none⟩])
 (.keep [1, 5, 6, 7, 28] (.cond (.t 28)
 (.reg false [] [⟨.mv (.t 6), some 29, none⟩,
   ⟨.faddr 2 (.t 1), some 30, none⟩,
   ⟨.aaddr 16 2 (.t 30) (.t 29), some 31, none⟩,
   ⟨.faddr 1 (.t 31), some 32, none⟩,
   ⟨.load false 1 (.t 32), some 33, none⟩,
   ⟨.len true (.t 33), some 34, none⟩,
   ⟨.mv (.t 34), some 7, none⟩])
 (.skip))))
 (.keep [1, 5, 6, 7] Jax))))
 (.keep [1, 5, 6] J8g))
def J2m : Jh := .seq (.reg false [] [⟨.mv (.t 5), some 54, none⟩,
  ⟨.mv (.t 5), some 55, none⟩,
  ⟨.len true (.t 55), some 56, none⟩,
  ⟨.bin .sub .plain (.c (.p (.i .i64 244))) (.t 56), some 57, none⟩,
  ⟨.call J3P [(.t 57)] 0, some 58, none⟩,
  ⟨.bin .add .plain (.t 54) (.t 58), some 59, none⟩,
  ⟨.mv (.t 59), some 5, none⟩])
 (.keep [1, 5] (.seq (.reg false [] [⟨.mv (.t 5), some 60, none⟩,
  ⟨.mv (.t 5), some 61, none⟩,
  ⟨.call J7v [(.t 61)] 0, some 62, none⟩,
  ⟨.conv (.int .i64) (.t 62), some 63, none⟩,
  ⟨.call J4h [(.t 60), (.t 63), (.c (.p (.i .i64 4)))] 0, some 64, none⟩,
  ⟨.mv (.t 64), some 5, none⟩])
 (.keep [1, 5] (.seq (.reg false [] [⟨.mv (.t 5), some 65, none⟩,
  ⟨.faddr 1 (.t 1), some 66, none⟩,
  ⟨.load false 1 (.t 66), some 67, none⟩,
  ⟨.call J4h [(.t 65), (.t 67), (.c (.p (.i .i64 8)))] 0, some 68, none⟩,
  ⟨.mv (.t 68), some 2, none⟩,
  ⟨.mv (.c (.p (.i .i64 0))), some 3, none⟩])
 (.ret)))))
def J5c : Jh := .seq (.reg false [] [⟨.box 34 (.t 0), some 1, none⟩,
  ⟨.mv (.c (.p (.s []))), some 2, none⟩,
  ⟨.mv (.c (.p (.i .i64 0))), some 3, none⟩])
 (.keep [1] (.seq (.seq (.reg false [] [⟨.load true 34 (.t 1), some 8, none⟩,
  ⟨.call J74 [(.t 8)] 0, some 9, none⟩,
  ⟨.mv (.t 9), some 4, none⟩])
 (.keep [1, 4] (.seq (.reg false [] [⟨.mv (.t 4), some 10, none⟩,
  ⟨.bin .neq .plain (.t 10) (.c (.p (.i .i64 0))), some 11, none⟩])
 (.cond (.t 11)
 (.seq (.reg false [] [⟨.mv (.t 4), some 12, none⟩,
   ⟨.mv (.c (.p (.s []))), some 2, none⟩,
   ⟨.mv (.t 12), some 3, none⟩])
  (.ret))
 (.skip)))))
 (.seq (.reg false [] [⟨.faddr 1 (.t 1), some 13, none⟩,
  ⟨.load false 1 (.t 13), some 14, none⟩,
  ⟨.call J4h [(.c (.p (.s []))), (.t 14), (.c (.p (.i .i64 8)))] 0, some 15, none⟩,
  ⟨.mv (.t 15), some 5, none⟩])
 (.keep [1, 5] (.seq (.reg false [] [⟨.mv (.t 5), some 16, none⟩,
  ⟨.faddr 0 (.t 1), some 17, none⟩,
  ⟨.load false 1 (.t 17), some 18, none⟩,
  ⟨.call J4h [(.t 16), (.t 18), (.c (.p (.i .i64 4)))] 0, some 19, none⟩,
  ⟨.mv (.t 19), some 5, none⟩])
 (.keep [1, 5] (.seq (.seq (.reg false [] [⟨.mv (.c (.p (.i .i64 0))), some 6, none⟩])
 (.block 0 (.loop [1, 5, 6] J19)))
 (.keep [1, 5] J2m))))))))
def J1h : AFn := ⟨1, 69, J5c, [.tmp 2, .tmp 3], false⟩
def J4E : Jh := .seq (.reg false [] [⟨.mv (.c (.p (.s []))), some 4, none⟩])
 (.seq (.seq (.reg false [] [⟨.mv (.t 0), some 7, none⟩,
  ⟨.call Jc [(.t 7), (.c (.p (.i .i64 6)))] 0, some 8, none⟩])
 (.block 0 (.seq (.reg false [] [⟨.bin .eql .plain (.t 8) (.c (.p (.i .i64 0))), some 10, none⟩,
  ⟨.mv (.t 10), some 9, none⟩])
 (.cond (.t 9)
 (.seq (.reg false [] [⟨.call J5L [] 0, some 11, none⟩,
   ⟨.mv (.t 11), some 4, none⟩])
  (.ret))
 (.seq (.reg false [] [⟨.bin .eql .plain (.t 8) (.c (.p (.i .i64 1))), some 13, none⟩,
   ⟨.mv (.t 13), some 12, none⟩])
  (.cond (.t 12)
  (.seq (.reg false [] [⟨.mv (.t 0), some 14, none⟩,
    ⟨.call J4f [(.t 14)] 0, some 15, none⟩,
    ⟨.mv (.t 15), some 4, none⟩])
   (.ret))
  (.skip)))))))
 (.seq (.reg false [] [⟨.mv (.t 0), some 17, none⟩,
  ⟨.mv (.t 1), some 18, none⟩,
  ⟨.call J4O [(.t 17), (.t 18)] 0, some 19, none⟩,
  ⟨.call J5h [(.t 19)] 0, some 20, none⟩,
  ⟨.mv (.t 20), some 16, none⟩,
  ⟨.extr (.t 16) 0, some 21, none⟩,
  ⟨.extr (.t 16) 1, some 22, none⟩,
  ⟨.mv (.t 21), some 5, none⟩,
  ⟨.mv (.t 22), some 6, none⟩])
 (.keep [5] (.seq (.reg false [] [⟨.mv (.t 5), some 23, none⟩,
  ⟨.mv (.t 23), some 4, none⟩])
 (.ret)))))
def J7Q : AFn := ⟨2, 24, J4E, [.tmp 4], false⟩
def J12 : Jh := .seq (.reg false [] [⟨.newbox (J5 default), some 4, none⟩,
  ⟨.mv (.c (.p (.i .i64 0))), some 5, none⟩])
 (.seq (.seq (.reg false [] [⟨.mv (.t 1), some 8, none⟩,
  ⟨.call J6r [(.t 8)] 0, some 9, none⟩,
  ⟨.un .not (.t 9), some 10, none⟩])
 (.keep [0, 1, 4, 10] (.cond (.t 10)
 (.seq (.reg false [] [⟨.build (J5 default) [], some 11, none⟩,
   ⟨.store 34 (.t 4) (.t 11), none, none⟩,
   ⟨.mv (.c (.p (.i .i64 1))), some 5, none⟩])
  (.ret))
 (.skip))))
 (.seq (.reg false [] [⟨.mv (.t 0), some 13, none⟩,
  ⟨.call J6L [(.t 13)] 0, some 14, none⟩,
  ⟨.mv (.t 14), some 12, none⟩,
  ⟨.extr (.t 12) 0, some 15, none⟩,
  ⟨.extr (.t 12) 1, some 16, none⟩,
  ⟨.newbox (J5 default), some 6, none⟩,
  ⟨.store 34 (.t 6) (.t 15), none, none⟩,
  ⟨.mv (.t 16), some 7, none⟩])
 (.keep [1, 4, 6, 7] (.seq (.block 0 (.seq (.reg false [] [⟨.mv (.t 7), some 18, none⟩,
  ⟨.bin .eql .plain (.t 18) (.c (.p (.i .i64 7))), some 19, none⟩,
  ⟨.mv (.t 19), some 17, none⟩])
 (.keep [1, 4, 6, 7, 17] (.cond (.t 17)
 (.seq (.reg false [] [⟨.mv (.t 1), some 20, none⟩,
   ⟨.call J9G [(.t 20)] 0, some 21, none⟩,
   ⟨.store 34 (.t 4) (.t 21), none, none⟩,
   ⟨.mv (.c (.p (.i .i64 0))), some 5, none⟩])
  (.ret))
 (.seq (.reg false [] [⟨.mv (.t 7), some 23, none⟩,
   ⟨.bin .neq .plain (.t 23) (.c (.p (.i .i64 0))), some 24, none⟩,
   ⟨.mv (.t 24), some 22, none⟩])
  (.keep [1, 4, 6, 7, 22] (.cond (.t 22)
  (.seq (.reg false [] [⟨.build (J5 default) [], some 25, none⟩,
    ⟨.mv (.t 7), some 26, none⟩,
    ⟨.store 34 (.t 4) (.t 25), none, none⟩,
    ⟨.mv (.t 26), some 5, none⟩])
   (.ret))
  (.seq (.reg false [] [⟨.faddr 0 (.t 6), some 28, none⟩,
    ⟨.load false 1 (.t 28), some 29, none⟩,
    ⟨.mv (.t 1), some 30, none⟩,
    ⟨.bin .neq .plain (.t 29) (.t 30), some 31, none⟩,
    ⟨.mv (.t 31), some 27, none⟩])
   (.keep [4, 6, 27] (.cond (.t 27)
   (.seq (.reg false [] [⟨.build (J5 default) [], some 32, none⟩,
     ⟨.store 34 (.t 4) (.t 32), none, none⟩,
     ⟨.mv (.c (.p (.i .i64 6))), some 5, none⟩])
    (.ret))
   (.skip)))))))))))
 (.seq (.reg false [] [⟨.load true 34 (.t 6), some 33, none⟩,
  ⟨.store 34 (.t 4) (.t 33), none, none⟩,
  ⟨.mv (.c (.p (.i .i64 0))), some 5, none⟩])
 (.ret))))))
def J5C : AFn := ⟨2, 34, J12, [.cell 4 true 34, .tmp 5], false⟩
def Jau : Jh := .reg false [] [⟨.mv (.t 7), some 55, none⟩,
  ⟨.bin .add .plain (.t 55) (.c (.p (.i .i64 1))), some 56, none⟩,
  ⟨.mv (.t 56), some 7, none⟩]
def J0N : Jh := .seq (.seq (.reg false [] [⟨.mv (.t 7), some 53, none⟩,
  ⟨.bin .lss .plain (.t 53) (.c (.p (.i .i64 16))), some 54, none⟩])
 (.cond (.t 54)
 (.skip)
 (.exit 1)))
 (.seq (.block 2 (.seq (.reg false [] [⟨.mv (.t 7), some 57, none⟩,
  ⟨.bin .mul .plain (.t 57) (.c (.p (.i .i64 13))), some 58, none⟩,
  ⟨.bin .add .plain (.c (.p (.i .i64 12))) (.t 58), some 59, none⟩,
  ⟨.mv (.t 59), some 8, none⟩])
 (.keep [0, 2, 6, 7, 8] (.seq (.reg false [] [⟨.mv (.t 0), some 60, none⟩,
  ⟨.mv (.t 8), some 61, none⟩,
  ⟨.sidx (.t 60) (.t 61), some 62, none⟩,
  ⟨.conv (.int .i64) (.t 62), some 63, none⟩,
  ⟨.mv (.t 63), some 9, none⟩])
 (.keep [0, 2, 6, 7, 8, 9] (.seq (.seq (.reg false [] [⟨.mv (.t 9), some 64, none⟩,
  ⟨.bin .eql .plain (.t 64) (.c (.p (.i .i64 255))), some 65, none⟩])
 (.cond (.t 65)
 (.exit 2)
 (.skip)))
 (.seq (.seq (.reg false [] [⟨.mv (.t 9), some 66, none⟩,
  ⟨.bin .gtr .plain (.t 66) (.c (.p (.i .i64 12))), some 67, none⟩])
 (.cond (.t 67)
 (.seq (.reg false [] [⟨.build (J5 default) [], some 68, none⟩,
   ⟨.store 34 (.t 2) (.t 68), none, none⟩,
   ⟨.mv (.c (.p (.i .i64 4))), some 3, none⟩])
  (.ret))
 (.skip)))
 (.reg false [] [⟨.mv (.t 7), some 69, none⟩,
  ⟨.mv (.t 0), some 70, none⟩,
  ⟨.mv (.t 8), some 71, none⟩,
  ⟨.bin .add .plain (.t 71) (.c (.p (.i .i64 1))), some 72, none⟩,
  ⟨.mv (.t 8), some 73, none⟩,
  ⟨.bin .add .plain (.t 73) (.c (.p (.i .i64 1))), some 74, none⟩,
  ⟨.mv (.t 9), some 75, none⟩,
  ⟨.bin .add .plain (.t 74) (.t 75), some 76, none⟩,
  ⟨.slice .str (.t 70) (some (.t 72)) (some (.t 76)) none, some 77, none⟩,
  ⟨.build (Ji default) [(0, 1, (.c (.p (.b true)))), (1, 1, (.t 77))], some 78, none⟩,
  ⟨.faddr 2 (.t 6), some 79, none⟩,
  ⟨.aaddr 16 2 (.t 79) (.t 69), some 80, none⟩,
  ⟨.store 2 (.t 80) (.t 78), none, none⟩]))))))))
 (.keep [0, 2, 6, 7] Jau))
def J1a : Jh := .seq (.seq (.reg false [] [⟨.load true 34 (.t 6), some 82, none⟩,
  ⟨.call J5h [(.t 82)] 0, some 83, none⟩,
  ⟨.mv (.t 83), some 81, none⟩,
  ⟨.extr (.t 81) 0, some 84, none⟩,
  ⟨.extr (.t 81) 1, some 85, none⟩,
  ⟨.mv (.t 84), some 10, none⟩,
  ⟨.mv (.t 85), some 11, none⟩])
 (.keep [0, 2, 6, 10, 11] (.seq (.reg false [] [⟨.mv (.t 11), some 86, none⟩,
  ⟨.bin .neq .plain (.t 86) (.c (.p (.i .i64 0))), some 87, none⟩,
  ⟨.mv (.t 87), some 88, none⟩,
  ⟨.mv (.t 10), some 89, some (88, false)⟩,
  ⟨.mv (.t 0), some 90, some (88, false)⟩,
  ⟨.bin .neq .plain (.t 89) (.t 90), some 91, some (88, false)⟩,
  ⟨.pick (.t 88) (.c (.p (.b true))) (.t 91), some 92, none⟩])
 (.keep [2, 6, 92] (.cond (.t 92)
 (.seq (.reg false [] [⟨.build (J5 default) [], some 93, none⟩,
   ⟨.store 34 (.t 2) (.t 93), none, none⟩,
   ⟨.mv (.c (.p (.i .i64 4))), some 3, none⟩])
  (.ret))
 (.skip))))))
 (.seq (.reg false [] [⟨.load true 34 (.t 6), some 94, none⟩,
  ⟨.store 34 (.t 2) (.t 94), none, none⟩,
  ⟨.mv (.c (.p (.i .i64 0))), some 3, none⟩])
 (.ret))
def J1A : Jh := .seq (.reg false [] [⟨.newbox (J5 default), some 2, none⟩,
  ⟨.mv (.c (.p (.i .i64 0))), some 3, none⟩])
 (.seq (.block 0 (.seq (.reg false [] [⟨.mv (.t 0), some 13, none⟩,
  ⟨.len true (.t 13), some 14, none⟩,
  ⟨.bin .neq .plain (.t 14) (.c (.p (.i .i64 256))), some 15, none⟩,
  ⟨.mv (.t 15), some 12, none⟩])
 (.keep [0, 2, 12] (.cond (.t 12)
 (.seq (.reg false [] [⟨.build (J5 default) [], some 16, none⟩,
   ⟨.store 34 (.t 2) (.t 16), none, none⟩,
   ⟨.mv (.c (.p (.i .i64 2))), some 3, none⟩])
  (.ret))
 (.seq (.reg false [] [⟨.mv (.t 0), some 18, none⟩,
   ⟨.call J5L [] 0, some 19, none⟩,
   ⟨.bin .eql .plain (.t 18) (.t 19), some 20, none⟩,
   ⟨.mv (.t 20), some 17, none⟩])
  (.keep [0, 2, 17] (.cond (.t 17)
  (.seq (.reg false [] [⟨.build (J5 default) [], some 21, none⟩,
    ⟨.store 34 (.t 2) (.t 21), none, none⟩,
    ⟨.mv (.c (.p (.i .i64 7))), some 3, none⟩])
   (.ret))
  (.seq (.reg true [] [⟨.mv (.t 0), some 23, none⟩,
    ⟨.slice .str (.t 23) none (some (.c (.p (.i .i64 8)))) none, some 24, none⟩,
    ⟨.mv (.t 0), some 25, none⟩,
    ⟨.slice .str (.t 25) (some (.c (.p (.i .i64 248)))) none none, some 26, none⟩,
    ⟨.bin .neq .plain (.t 24) (.t 26), some 27, none⟩,
    ⟨.mv (.t 27), some 22, none⟩])
   (.keep [0, 2, 22] (.cond (.t 22)
   (.seq (.reg false [] [⟨.build (J5 default) [], some 28, none⟩,
     ⟨.store 34 (.t 2) (.t 28), none, none⟩,
     ⟨.mv (.c (.p (.i .i64 27))), some 3, none⟩])
    (.ret))
   (.skip)))))))))))
 (.seq (.reg false [] [⟨.mv (.t 0), some 30, none⟩,
  ⟨.call J6g [(.t 30), (.c (.p (.i .i64 244))), (.c (.p (.i .i64 4)))] 0, some 31, none⟩,
  ⟨.mv (.t 31), some 29, none⟩,
  ⟨.extr (.t 29) 0, some 32, none⟩,
  ⟨.extr (.t 29) 1, some 33, none⟩,
  ⟨.mv (.t 32), some 4, none⟩,
  ⟨.mv (.t 33), some 5, none⟩])
 (.keep [0, 2, 4] (.seq (.seq (.reg false [] [⟨.mv (.t 4), some 34, none⟩,
  ⟨.conv (.int .u32) (.t 34), some 35, none⟩,
  ⟨.mv (.t 0), some 36, none⟩,
  ⟨.slice .str (.t 36) none (some (.c (.p (.i .i64 244)))) none, some 37, none⟩,
  ⟨.call J7v [(.t 37)] 0, some 38, none⟩,
  ⟨.bin .neq .plain (.t 35) (.t 38), some 39, none⟩])
 (.keep [0, 2, 39] (.cond (.t 39)
 (.seq (.reg false [] [⟨.build (J5 default) [], some 40, none⟩,
   ⟨.store 34 (.t 2) (.t 40), none, none⟩,
   ⟨.mv (.c (.p (.i .i64 3))), some 3, none⟩])
  (.ret))
 (.skip))))
 (.seq (.reg false [] [⟨.newbox (J5 default), some 6, none⟩])
 (.seq (.reg false [] [⟨.mv (.t 0), some 42, none⟩,
  ⟨.call J6g [(.t 42), (.c (.p (.i .i64 0))), (.c (.p (.i .i64 8)))] 0, some 43, none⟩,
  ⟨.mv (.t 43), some 41, none⟩,
  ⟨.extr (.t 41) 0, some 44, none⟩,
  ⟨.extr (.t 41) 1, some 45, none⟩,
  ⟨.faddr 1 (.t 6), some 46, none⟩,
  ⟨.store 1 (.t 46) (.t 44), none, none⟩])
 (.keep [0, 2, 6] (.seq (.reg false [] [⟨.mv (.t 0), some 48, none⟩,
  ⟨.call J6g [(.t 48), (.c (.p (.i .i64 8))), (.c (.p (.i .i64 4)))] 0, some 49, none⟩,
  ⟨.mv (.t 49), some 47, none⟩,
  ⟨.extr (.t 47) 0, some 50, none⟩,
  ⟨.extr (.t 47) 1, some 51, none⟩,
  ⟨.faddr 0 (.t 6), some 52, none⟩,
  ⟨.store 1 (.t 52) (.t 50), none, none⟩])
 (.keep [0, 2, 6] (.seq (.seq (.reg false [] [⟨.mv (.c (.p (.i .i64 0))), some 7, none⟩])
 (.block 1 (.loop [0, 2, 6, 7] J0N)))
 (.keep [0, 2, 6] J1a)))))))))))
def J1B : AFn := ⟨1, 95, J1A, [.cell 2 true 34, .tmp 3], false⟩
def JX : Jh := .seq (.reg false [] [⟨.bin .lss .plain (.t 36) (.t 35), some 37, none⟩])
 (.seq (.cond (.t 37)
 (.skip)
 (.exit 0))
 (.seq (.block 1 (.seq (.reg false [] [⟨.mv (.t 36), some 38, none⟩,
  ⟨.mv (.t 38), some 3, none⟩])
 (.seq (.reg false [] [⟨.faddr 2 (.t 1), some 39, none⟩,
  ⟨.load false 1 (.t 39), some 40, none⟩,
  ⟨.mv (.t 3), some 41, none⟩,
  ⟨.iaddr 3 (.t 40) (.t 41), some 42, none⟩,
  ⟨.load true 3 (.t 42), some 43, none⟩,
  ⟨.newbox (J4 default), some 4, none⟩,
  ⟨.store 3 (.t 4) (.t 43), none, none⟩])
 (.keep [1, 3, 4, 35, 36] (.seq (.seq (.reg true [] [⟨.faddr 0 (.t 4), some 44, none⟩,
  ⟨.load false 1 (.t 44), some 45, none⟩,
  ⟨.faddr 1 (.t 1), some 46, none⟩,
  ⟨.load false 1 (.t 46), some 47, none⟩,
  ⟨.bin .geq .plain (.t 45) (.t 47), some 48, none⟩,
  ⟨.mv (.t 48), some 49, none⟩,
  ⟨.mv (.t 3), some 50, some (49, false)⟩,
  ⟨.bin .gtr .plain (.t 50) (.c (.p (.i .i64 0))), some 51, some (49, false)⟩,
  ⟨.mv (.t 51), some 52, some (49, false)⟩,
  ⟨.faddr 2 (.t 1), some 53, some (52, true)⟩,
  ⟨.load false 1 (.t 53), some 54, some (52, true)⟩,
  ⟨.mv (.t 3), some 55, some (52, true)⟩,
  ⟨.bin .sub .plain (.t 55) (.c (.p (.i .i64 1))), some 56, some (52, true)⟩,
  ⟨.iaddr 3 (.t 54) (.t 56), some 57, some (52, true)⟩,
  ⟨.faddr 0 (.t 57), some 58, some (52, true)⟩,
  ⟨.load false 1 (.t 58), some 59, some (52, true)⟩,
  ⟨.faddr 0 (.t 4), some 60, some (52, true)⟩,
  ⟨.load false 1 (.t 60), some 61, some (52, true)⟩,
  ⟨.bin .geq .plain (.t 59) (.t 61), some 62, some (52, true)⟩,
  ⟨.pick (.t 52) (.t 62) (.c (.p (.b false))), some 63, some (49, false)⟩,
  ⟨.pick (.t 49) (.c (.p (.b true))) (.t 63), some 64, none⟩])
 (.keep [1, 4, 35, 36, 64] (.cond (.t 64)
 (.seq (.reg false [] [⟨.mv (.c (.p (.b false))), some 2, none⟩])
  (.ret))
 (.skip))))
 (.seq (.reg false [] [⟨.faddr 2 (.t 4), some 66, none⟩,
  ⟨.load false 1 (.t 66), some 67, none⟩,
  ⟨.faddr 0 (.t 4), some 68, none⟩,
  ⟨.load false 1 (.t 68), some 69, none⟩,
  ⟨.call J3r [(.t 67), (.t 69)] 0, some 70, none⟩,
  ⟨.mv (.t 70), some 65, none⟩,
  ⟨.extr (.t 65) 0, some 71, none⟩,
  ⟨.extr (.t 65) 1, some 72, none⟩,
  ⟨.newbox (J5 default), some 5, none⟩,
  ⟨.store 34 (.t 5) (.t 71), none, none⟩,
  ⟨.mv (.t 72), some 6, none⟩])
 (.keep [1, 4, 5, 6, 35, 36] (.seq (.reg false [] [⟨.mv (.t 6), some 73, none⟩,
  ⟨.bin .neq .plain (.t 73) (.c (.p (.i .i64 0))), some 74, none⟩,
  ⟨.mv (.t 74), some 75, none⟩,
  ⟨.faddr 1 (.t 5), some 76, some (75, false)⟩,
  ⟨.load false 1 (.t 76), some 77, some (75, false)⟩,
  ⟨.faddr 1 (.t 4), some 78, some (75, false)⟩,
  ⟨.load false 1 (.t 78), some 79, some (75, false)⟩,
  ⟨.bin .neq .plain (.t 77) (.t 79), some 80, some (75, false)⟩,
  ⟨.pick (.t 75) (.c (.p (.b true))) (.t 80), some 81, none⟩])
 (.keep [1, 35, 36, 81] (.cond (.t 81)
 (.seq (.reg false [] [⟨.mv (.c (.p (.b false))), some 2, none⟩])
  (.ret))
 (.skip)))))))))))
 (.reg false [] [⟨.bin .add .plain (.t 36) (.c (.p (.i .i64 1))), some 82, none⟩,
  ⟨.mv (.t 82), some 36, none⟩])))
def J4p : Jh := .seq (.reg false [] [⟨.mv (.c (.p (.b true))), some 2, none⟩])
 (.ret)
def J1m : Jh := .seq (.reg false [] [⟨.box 3 (.t 0), some 1, none⟩,
  ⟨.mv (.c (.p (.b false))), some 2, none⟩])
 (.seq (.seq (.reg false [] [⟨.faddr 0 (.t 1), some 7, none⟩,
  ⟨.load false 1 (.t 7), some 8, none⟩,
  ⟨.bin .lss .plain (.t 8) (.c (.p (.i .i64 1))), some 9, none⟩,
  ⟨.mv (.t 9), some 10, none⟩,
  ⟨.faddr 0 (.t 1), some 11, some (10, false)⟩,
  ⟨.load false 1 (.t 11), some 12, some (10, false)⟩,
  ⟨.bin .gtr .plain (.t 12) (.c (.p (.i .i64 1073741824))), some 13, some (10, false)⟩,
  ⟨.pick (.t 10) (.c (.p (.b true))) (.t 13), some 14, none⟩,
  ⟨.mv (.t 14), some 15, none⟩,
  ⟨.faddr 1 (.t 1), some 16, some (15, false)⟩,
  ⟨.load false 1 (.t 16), some 17, some (15, false)⟩,
  ⟨.bin .lss .plain (.t 17) (.c (.p (.i .i64 1))), some 18, some (15, false)⟩,
  ⟨.pick (.t 15) (.c (.p (.b true))) (.t 18), some 19, none⟩,
  ⟨.mv (.t 19), some 20, none⟩,
  ⟨.faddr 1 (.t 1), some 21, some (20, false)⟩,
  ⟨.load false 1 (.t 21), some 22, some (20, false)⟩,
  ⟨.bin .gtr .plain (.t 22) (.c (.p (.i .i64 64))), some 23, some (20, false)⟩,
  ⟨.pick (.t 20) (.c (.p (.b true))) (.t 23), some 24, none⟩,
  ⟨.mv (.t 24), some 25, none⟩,
  ⟨.faddr 2 (.t 1), some 26, some (25, false)⟩,
  ⟨.load false 1 (.t 26), some 27, some (25, false)⟩,
  ⟨.len false (.t 27), some 28, some (25, false)⟩,
  ⟨.faddr 1 (.t 1), some 29, some (25, false)⟩,
  ⟨.load false 1 (.t 29), some 30, some (25, false)⟩,
  ⟨.bin .gtr .plain (.t 28) (.t 30), some 31, some (25, false)⟩,
  ⟨.pick (.t 25) (.c (.p (.b true))) (.t 31), some 32, none⟩])
 (.keep [1, 32] (.cond (.t 32)
 (.seq (.reg false [] [⟨.mv (.c (.p (.b false))), some 2, none⟩])
  (.ret))
 (.skip))))
 (.seq (.tidy [2] (.seq (.reg false [] [⟨.faddr 2 (.t 1), some 33, none⟩,
  ⟨.load false 1 (.t 33), some 34, none⟩,
  ⟨.len false (.t 34), some 35, none⟩,
  ⟨.mv (.c (.p (.i .i64 0))), some 36, none⟩])
 (.keep [1, 35, 36] (.block 0 (.loop [1, 35, 36] JX)))))
 (.keep [] J4p)))
def J2n : AFn := ⟨1, 83, J1m, [.tmp 2], false⟩
def J0x : Jh := .seq (.reg false [] [⟨.newbox (J5 default), some 4, none⟩,
  ⟨.mv (.c (.p (.i .i64 0))), some 5, none⟩])
 (.seq (.seq (.reg false [] [⟨.mv (.t 1), some 8, none⟩,
  ⟨.bin .lss .plain (.t 8) (.c (.p (.i .i64 0))), some 9, none⟩,
  ⟨.mv (.t 9), some 10, none⟩,
  ⟨.mv (.t 1), some 11, some (10, false)⟩,
  ⟨.bin .geq .plain (.t 11) (.c (.p (.i .i64 64))), some 12, some (10, false)⟩,
  ⟨.pick (.t 10) (.c (.p (.b true))) (.t 12), some 13, none⟩])
 (.keep [0, 1, 4, 13] (.cond (.t 13)
 (.seq (.reg false [] [⟨.build (J5 default) [], some 14, none⟩,
   ⟨.store 34 (.t 4) (.t 14), none, none⟩,
   ⟨.mv (.c (.p (.i .i64 1))), some 5, none⟩])
  (.ret))
 (.skip))))
 (.seq (.reg false [] [⟨.mv (.t 0), some 16, none⟩,
  ⟨.call J6k [(.t 16)] 0, some 17, none⟩,
  ⟨.mv (.t 17), some 15, none⟩,
  ⟨.extr (.t 15) 0, some 18, none⟩,
  ⟨.extr (.t 15) 1, some 19, none⟩,
  ⟨.newbox (J5 default), some 6, none⟩,
  ⟨.store 34 (.t 6) (.t 18), none, none⟩,
  ⟨.mv (.t 19), some 7, none⟩])
 (.keep [1, 4, 6, 7] (.seq (.seq (.reg false [] [⟨.mv (.t 7), some 20, none⟩,
  ⟨.bin .eql .plain (.t 20) (.c (.p (.i .i64 7))), some 21, none⟩])
 (.cond (.t 21)
 (.seq (.reg false [] [⟨.mv (.t 1), some 22, none⟩,
   ⟨.call J8U [(.t 22)] 0, some 23, none⟩,
   ⟨.store 34 (.t 4) (.t 23), none, none⟩,
   ⟨.mv (.c (.p (.i .i64 0))), some 5, none⟩])
  (.ret))
 (.skip)))
 (.seq (.seq (.reg false [] [⟨.mv (.t 7), some 24, none⟩,
  ⟨.bin .eql .plain (.t 24) (.c (.p (.i .i64 0))), some 25, none⟩,
  ⟨.mv (.t 25), some 26, none⟩,
  ⟨.faddr 0 (.t 6), some 27, some (26, true)⟩,
  ⟨.load false 1 (.t 27), some 28, some (26, true)⟩,
  ⟨.mv (.t 1), some 29, some (26, true)⟩,
  ⟨.bin .neq .plain (.t 28) (.t 29), some 30, some (26, true)⟩,
  ⟨.pick (.t 26) (.t 30) (.c (.p (.b false))), some 31, none⟩])
 (.keep [4, 6, 7, 31] (.cond (.t 31)
 (.seq (.reg false [] [⟨.build (J5 default) [], some 32, none⟩,
   ⟨.store 34 (.t 4) (.t 32), none, none⟩,
   ⟨.mv (.c (.p (.i .i64 6))), some 5, none⟩])
  (.ret))
 (.skip))))
 (.seq (.reg false [] [⟨.load true 34 (.t 6), some 33, none⟩,
  ⟨.mv (.t 7), some 34, none⟩,
  ⟨.store 34 (.t 4) (.t 33), none, none⟩,
  ⟨.mv (.t 34), some 5, none⟩])
 (.ret)))))))
def J58 : AFn := ⟨2, 35, J0x, [.cell 4 true 34, .tmp 5], false⟩
def JbT : Jh := .seq (.reg false [] [⟨.faddr 2 (.t 3), some 56, none⟩,
  ⟨.load false 1 (.t 56), some 57, none⟩,
  ⟨.mv (.t 10), some 58, none⟩,
  ⟨.mv (.t 1), some 59, none⟩,
  ⟨.faddr 1 (.t 8), some 60, none⟩,
  ⟨.load false 1 (.t 60), some 61, none⟩,
  ⟨.mv (.t 2), some 62, none⟩,
  ⟨.build (J4 default) [(0, 1, (.t 59)), (1, 1, (.t 61)), (2, 1, (.t 62))], some 63, none⟩,
  ⟨.iaddr 3 (.t 57) (.t 58), some 64, none⟩,
  ⟨.store 3 (.t 64) (.t 63), none, none⟩])
 (.keep [3, 6] (.seq (.reg false [] [⟨.load true 3 (.t 3), some 65, none⟩,
  ⟨.store 3 (.t 6) (.t 65), none, none⟩,
  ⟨.mv (.c (.p (.i .i64 0))), some 7, none⟩])
 (.ret)))
def J1P : Jh := .seq (.reg false [] [⟨.box 3 (.t 0), some 3, none⟩,
  ⟨.newbox (J3 default), some 6, none⟩,
  ⟨.mv (.c (.p (.i .i64 0))), some 7, none⟩])
 (.keep [1, 2, 3, 6] (.seq (.block 0 (.seq (.reg false [] [⟨.load true 3 (.t 3), some 13, none⟩,
  ⟨.call J22 [(.t 13)] 0, some 14, none⟩,
  ⟨.un .not (.t 14), some 15, none⟩,
  ⟨.mv (.t 15), some 12, none⟩])
 (.keep [1, 2, 3, 6, 12] (.cond (.t 12)
 (.seq (.reg false [] [⟨.build (J3 default) [], some 16, none⟩,
   ⟨.store 3 (.t 6) (.t 16), none, none⟩,
   ⟨.mv (.c (.p (.i .i64 43))), some 7, none⟩])
  (.ret))
 (.seq (.reg false [] [⟨.mv (.t 1), some 18, none⟩,
   ⟨.bin .lss .plain (.t 18) (.c (.p (.i .i64 0))), some 19, none⟩,
   ⟨.mv (.t 19), some 20, none⟩,
   ⟨.mv (.t 1), some 21, some (20, false)⟩,
   ⟨.faddr 1 (.t 3), some 22, some (20, false)⟩,
   ⟨.load false 1 (.t 22), some 23, some (20, false)⟩,
   ⟨.bin .geq .plain (.t 21) (.t 23), some 24, some (20, false)⟩,
   ⟨.pick (.t 20) (.c (.p (.b true))) (.t 24), some 25, none⟩,
   ⟨.mv (.t 25), some 17, none⟩])
  (.keep [1, 2, 3, 6, 17] (.cond (.t 17)
  (.seq (.reg false [] [⟨.build (J3 default) [], some 26, none⟩,
    ⟨.store 3 (.t 6) (.t 26), none, none⟩,
    ⟨.mv (.c (.p (.i .i64 1))), some 7, none⟩])
   (.ret))
  (.skip))))))))
 (.seq (.reg false [] [⟨.mv (.t 2), some 28, none⟩,
  ⟨.mv (.t 1), some 29, none⟩,
  ⟨.call J3r [(.t 28), (.t 29)] 0, some 30, none⟩,
  ⟨.mv (.t 30), some 27, none⟩,
  ⟨.extr (.t 27) 0, some 31, none⟩,
  ⟨.extr (.t 27) 1, some 32, none⟩,
  ⟨.newbox (J5 default), some 8, none⟩,
  ⟨.store 34 (.t 8) (.t 31), none, none⟩,
  ⟨.mv (.t 32), some 9, none⟩])
 (.keep [1, 2, 3, 6, 8, 9] (.seq (.seq (.reg false [] [⟨.mv (.t 9), some 33, none⟩,
  ⟨.bin .neq .plain (.t 33) (.c (.p (.i .i64 0))), some 34, none⟩])
 (.cond (.t 34)
 (.seq (.reg false [] [⟨.build (J3 default) [], some 35, none⟩,
   ⟨.mv (.t 9), some 36, none⟩,
   ⟨.store 3 (.t 6) (.t 35), none, none⟩,
   ⟨.mv (.t 36), some 7, none⟩])
  (.ret))
 (.skip)))
 (.seq (.reg false [] [⟨.load true 3 (.t 3), some 38, none⟩,
  ⟨.mv (.t 1), some 39, none⟩,
  ⟨.call J5S [(.t 38), (.t 39)] 0, some 40, none⟩,
  ⟨.mv (.t 40), some 37, none⟩,
  ⟨.extr (.t 37) 0, some 41, none⟩,
  ⟨.extr (.t 37) 1, some 42, none⟩,
  ⟨.mv (.t 41), some 10, none⟩,
  ⟨.mv (.t 42), some 11, none⟩])
 (.keep [1, 2, 3, 6, 8, 10, 11] (.seq (.reg false [] [⟨.faddr 2 (.t 3), some 43, none⟩,
  ⟨.load false 1 (.t 43), some 44, none⟩,
  ⟨.call J0O [(.t 44)] 1, some 45, none⟩,
  ⟨.faddr 2 (.t 3), some 46, none⟩,
  ⟨.store 1 (.t 46) (.t 45), none, none⟩])
 (.keep [1, 2, 3, 6, 8, 10, 11] (.seq (.tidy [1, 2, 3, 6, 7, 8, 10] (.seq (.reg false [] [⟨.mv (.t 11), some 47, none⟩,
  ⟨.un .not (.t 47), some 48, none⟩])
 (.cond (.t 48)
 (.reg false [] [⟨.faddr 2 (.t 3), some 49, none⟩,
   ⟨.load false 1 (.t 49), some 50, none⟩,
   ⟨.mv (.t 10), some 51, none⟩,
   ⟨.build (J4 default) [], some 52, none⟩,
   ⟨.lits true 3 1 (J4 default) [(0, (.t 52))], some 53, none⟩,
   ⟨.callo J1c [true, false, true] [(.t 50), (.t 51), (.t 53)] 0, some 54, none⟩,
   ⟨.faddr 2 (.t 3), some 55, none⟩,
   ⟨.store 1 (.t 55) (.t 54), none, none⟩])
 (.skip))))
 (.keep [1, 2, 3, 6, 8, 10] JbT)))))))))))
def J7t : AFn := ⟨3, 66, J1P, [.cell 6 true 3, .tmp 7], false⟩
def J24 : Jh := .seq (.reg false [] [⟨.box 3 (.t 0), some 2, none⟩,
  ⟨.newbox (J4 default), some 4, none⟩,
  ⟨.mv (.c (.p (.b false))), some 5, none⟩])
 (.keep [1, 2, 4] (.seq (.seq (.reg false [] [⟨.load true 3 (.t 2), some 8, none⟩,
  ⟨.call J22 [(.t 8)] 0, some 9, none⟩,
  ⟨.un .not (.t 9), some 10, none⟩,
  ⟨.mv (.t 10), some 11, none⟩,
  ⟨.mv (.t 1), some 12, some (11, false)⟩,
  ⟨.bin .lss .plain (.t 12) (.c (.p (.i .i64 0))), some 13, some (11, false)⟩,
  ⟨.pick (.t 11) (.c (.p (.b true))) (.t 13), some 14, none⟩,
  ⟨.mv (.t 14), some 15, none⟩,
  ⟨.mv (.t 1), some 16, some (15, false)⟩,
  ⟨.faddr 1 (.t 2), some 17, some (15, false)⟩,
  ⟨.load false 1 (.t 17), some 18, some (15, false)⟩,
  ⟨.bin .geq .plain (.t 16) (.t 18), some 19, some (15, false)⟩,
  ⟨.pick (.t 15) (.c (.p (.b true))) (.t 19), some 20, none⟩])
 (.keep [1, 2, 4, 20] (.cond (.t 20)
 (.seq (.reg false [] [⟨.build (J4 default) [], some 21, none⟩,
   ⟨.store 3 (.t 4) (.t 21), none, none⟩,
   ⟨.mv (.c (.p (.b false))), some 5, none⟩])
  (.ret))
 (.skip))))
 (.seq (.reg false [] [⟨.load true 3 (.t 2), some 23, none⟩,
  ⟨.mv (.t 1), some 24, none⟩,
  ⟨.call J5S [(.t 23), (.t 24)] 0, some 25, none⟩,
  ⟨.mv (.t 25), some 22, none⟩,
  ⟨.extr (.t 22) 0, some 26, none⟩,
  ⟨.extr (.t 22) 1, some 27, none⟩,
  ⟨.mv (.t 26), some 6, none⟩,
  ⟨.mv (.t 27), some 7, none⟩])
 (.keep [2, 4, 6, 7] (.seq (.seq (.reg false [] [⟨.mv (.t 7), some 28, none⟩,
  ⟨.un .not (.t 28), some 29, none⟩])
 (.cond (.t 29)
 (.seq (.reg false [] [⟨.build (J4 default) [], some 30, none⟩,
   ⟨.store 3 (.t 4) (.t 30), none, none⟩,
   ⟨.mv (.c (.p (.b false))), some 5, none⟩])
  (.ret))
 (.skip)))
 (.seq (.reg false [] [⟨.faddr 2 (.t 2), some 31, none⟩,
  ⟨.load false 1 (.t 31), some 32, none⟩,
  ⟨.mv (.t 6), some 33, none⟩,
  ⟨.iaddr 3 (.t 32) (.t 33), some 34, none⟩,
  ⟨.load true 3 (.t 34), some 35, none⟩,
  ⟨.store 3 (.t 4) (.t 35), none, none⟩,
  ⟨.mv (.c (.p (.b true))), some 5, none⟩])
 (.ret)))))))
def J7I : AFn := ⟨2, 36, J24, [.cell 4 true 3, .tmp 5], false⟩
def J5N : Jh := .seq (.reg false [] [⟨.box 3 (.t 0), some 1, none⟩,
  ⟨.mv (.c (.p (.b false))), some 2, none⟩])
 (.seq (.reg false [] [⟨.load true 3 (.t 1), some 3, none⟩,
  ⟨.call J22 [(.t 3)] 0, some 4, none⟩,
  ⟨.mv (.t 4), some 5, none⟩,
  ⟨.faddr 2 (.t 1), some 6, some (5, true)⟩,
  ⟨.load false 1 (.t 6), some 7, some (5, true)⟩,
  ⟨.len false (.t 7), some 8, some (5, true)⟩,
  ⟨.faddr 1 (.t 1), some 9, some (5, true)⟩,
  ⟨.load false 1 (.t 9), some 10, some (5, true)⟩,
  ⟨.bin .eql .plain (.t 8) (.t 10), some 11, some (5, true)⟩,
  ⟨.pick (.t 5) (.t 11) (.c (.p (.b false))), some 12, none⟩,
  ⟨.mv (.t 12), some 2, none⟩])
 (.ret))
def J6W : AFn := ⟨1, 13, J5N, [.tmp 2], false⟩
def JR : Jh := .seq (.seq (.reg false [] [⟨.mv (.t 3), some 25, none⟩,
  ⟨.faddr 2 (.t 1), some 26, none⟩,
  ⟨.load false 1 (.t 26), some 27, none⟩,
  ⟨.len false (.t 27), some 28, none⟩,
  ⟨.bin .lss .plain (.t 25) (.t 28), some 29, none⟩])
 (.keep [1, 3, 29] (.cond (.t 29)
 (.skip)
 (.exit 0))))
 (.seq (.block 1 (.seq (.reg false [] [⟨.faddr 2 (.t 1), some 32, none⟩,
  ⟨.load false 1 (.t 32), some 33, none⟩,
  ⟨.mv (.t 3), some 34, none⟩,
  ⟨.iaddr 3 (.t 33) (.t 34), some 35, none⟩,
  ⟨.load true 3 (.t 35), some 36, none⟩,
  ⟨.newbox (J4 default), some 4, none⟩,
  ⟨.store 3 (.t 4) (.t 36), none, none⟩])
 (.keep [1, 3, 4] (.seq (.seq (.reg true [] [⟨.faddr 0 (.t 4), some 37, none⟩,
  ⟨.load false 1 (.t 37), some 38, none⟩,
  ⟨.bin .lss .plain (.t 38) (.c (.p (.i .i64 0))), some 39, none⟩,
  ⟨.mv (.t 39), some 40, none⟩,
  ⟨.faddr 0 (.t 4), some 41, some (40, false)⟩,
  ⟨.load false 1 (.t 41), some 42, some (40, false)⟩,
  ⟨.faddr 1 (.t 1), some 43, some (40, false)⟩,
  ⟨.load false 1 (.t 43), some 44, some (40, false)⟩,
  ⟨.bin .geq .plain (.t 42) (.t 44), some 45, some (40, false)⟩,
  ⟨.pick (.t 40) (.c (.p (.b true))) (.t 45), some 46, none⟩,
  ⟨.mv (.t 46), some 47, none⟩,
  ⟨.mv (.t 3), some 48, some (47, false)⟩,
  ⟨.bin .gtr .plain (.t 48) (.c (.p (.i .i64 0))), some 49, some (47, false)⟩,
  ⟨.mv (.t 49), some 50, some (47, false)⟩,
  ⟨.faddr 2 (.t 1), some 51, some (50, true)⟩,
  ⟨.load false 1 (.t 51), some 52, some (50, true)⟩,
  ⟨.mv (.t 3), some 53, some (50, true)⟩,
  ⟨.bin .sub .plain (.t 53) (.c (.p (.i .i64 1))), some 54, some (50, true)⟩,
  ⟨.iaddr 3 (.t 52) (.t 54), some 55, some (50, true)⟩,
  ⟨.faddr 0 (.t 55), some 56, some (50, true)⟩,
  ⟨.load false 1 (.t 56), some 57, some (50, true)⟩,
  ⟨.faddr 0 (.t 4), some 58, some (50, true)⟩,
  ⟨.load false 1 (.t 58), some 59, some (50, true)⟩,
  ⟨.bin .geq .plain (.t 57) (.t 59), some 60, some (50, true)⟩,
  ⟨.pick (.t 50) (.t 60) (.c (.p (.b false))), some 61, some (47, false)⟩,
  ⟨.pick (.t 47) (.c (.p (.b true))) (.t 61), some 62, none⟩])
 (.keep [1, 3, 4, 62] (.cond (.t 62)
 (.seq (.reg false [] [⟨.mv (.c (.p (.b false))), some 2, none⟩])
  (.ret))
 (.skip))))
 (.seq (.reg false [] [⟨.faddr 2 (.t 4), some 64, none⟩,
  ⟨.load false 1 (.t 64), some 65, none⟩,
  ⟨.faddr 0 (.t 4), some 66, none⟩,
  ⟨.load false 1 (.t 66), some 67, none⟩,
  ⟨.call J31 [(.t 65), (.t 67)] 0, some 68, none⟩,
  ⟨.mv (.t 68), some 63, none⟩,
  ⟨.extr (.t 63) 0, some 69, none⟩,
  ⟨.extr (.t 63) 1, some 70, none⟩,
  ⟨.newbox (J5 default), some 5, none⟩,
  ⟨.store 34 (.t 5) (.t 69), none, none⟩,
  ⟨.mv (.t 70), some 6, none⟩])
 (.keep [1, 3, 4, 5, 6] (.seq (.reg false [] [⟨.mv (.t 6), some 71, none⟩,
  ⟨.bin .neq .plain (.t 71) (.c (.p (.i .i64 0))), some 72, none⟩,
  ⟨.mv (.t 72), some 73, none⟩,
  ⟨.faddr 1 (.t 5), some 74, some (73, false)⟩,
  ⟨.load false 1 (.t 74), some 75, some (73, false)⟩,
  ⟨.faddr 1 (.t 4), some 76, some (73, false)⟩,
  ⟨.load false 1 (.t 76), some 77, some (73, false)⟩,
  ⟨.bin .neq .plain (.t 75) (.t 77), some 78, some (73, false)⟩,
  ⟨.pick (.t 73) (.c (.p (.b true))) (.t 78), some 79, none⟩])
 (.keep [1, 3, 79] (.cond (.t 79)
 (.seq (.reg false [] [⟨.mv (.c (.p (.b false))), some 2, none⟩])
  (.ret))
 (.skip))))))))))
 (.reg false [] [⟨.mv (.t 3), some 30, none⟩,
  ⟨.bin .add .plain (.t 30) (.c (.p (.i .i64 1))), some 31, none⟩,
  ⟨.mv (.t 31), some 3, none⟩]))
def J4z : Jh := .seq (.reg false [] [⟨.mv (.c (.p (.b true))), some 2, none⟩])
 (.ret)
def J1X : Jh := .seq (.reg false [] [⟨.box 3 (.t 0), some 1, none⟩,
  ⟨.mv (.c (.p (.b false))), some 2, none⟩])
 (.seq (.seq (.reg false [] [⟨.faddr 0 (.t 1), some 7, none⟩,
  ⟨.load false 1 (.t 7), some 8, none⟩,
  ⟨.bin .lss .plain (.t 8) (.c (.p (.i .i64 1))), some 9, none⟩,
  ⟨.mv (.t 9), some 10, none⟩,
  ⟨.faddr 0 (.t 1), some 11, some (10, false)⟩,
  ⟨.load false 1 (.t 11), some 12, some (10, false)⟩,
  ⟨.bin .gtr .plain (.t 12) (.c (.p (.i .i64 1073741824))), some 13, some (10, false)⟩,
  ⟨.pick (.t 10) (.c (.p (.b true))) (.t 13), some 14, none⟩,
  ⟨.mv (.t 14), some 15, none⟩,
  ⟨.faddr 1 (.t 1), some 16, some (15, false)⟩,
  ⟨.load false 1 (.t 16), some 17, some (15, false)⟩,
  ⟨.bin .lss .plain (.t 17) (.c (.p (.i .i64 1))), some 18, some (15, false)⟩,
  ⟨.pick (.t 15) (.c (.p (.b true))) (.t 18), some 19, none⟩,
  ⟨.mv (.t 19), some 20, none⟩,
  ⟨.faddr 1 (.t 1), some 21, some (20, false)⟩,
  ⟨.load false 1 (.t 21), some 22, some (20, false)⟩,
  ⟨.bin .gtr .plain (.t 22) (.c (.p (.i .i64 64))), some 23, some (20, false)⟩,
  ⟨.pick (.t 20) (.c (.p (.b true))) (.t 23), some 24, none⟩])
 (.keep [1, 24] (.cond (.t 24)
 (.seq (.reg false [] [⟨.mv (.c (.p (.b false))), some 2, none⟩])
  (.ret))
 (.skip))))
 (.seq (.tidy [2] (.seq (.reg false [] [⟨.mv (.c (.p (.i .i64 0))), some 3, none⟩])
 (.block 0 (.loop [1, 3] JR))))
 (.keep [] J4z)))
def J2u : AFn := ⟨1, 80, J1X, [.tmp 2], false⟩
def J5I : Jh := .seq (.reg false [] [⟨.box 3 (.t 0), some 1, none⟩,
  ⟨.mv (.c (.p (.b false))), some 2, none⟩])
 (.seq (.reg false [] [⟨.load true 3 (.t 1), some 3, none⟩,
  ⟨.call J2t [(.t 3)] 0, some 4, none⟩,
  ⟨.mv (.t 4), some 5, none⟩,
  ⟨.faddr 2 (.t 1), some 6, some (5, true)⟩,
  ⟨.load false 1 (.t 6), some 7, some (5, true)⟩,
  ⟨.len false (.t 7), some 8, some (5, true)⟩,
  ⟨.faddr 1 (.t 1), some 9, some (5, true)⟩,
  ⟨.load false 1 (.t 9), some 10, some (5, true)⟩,
  ⟨.bin .eql .plain (.t 8) (.t 10), some 11, some (5, true)⟩,
  ⟨.pick (.t 5) (.t 11) (.c (.p (.b false))), some 12, none⟩,
  ⟨.mv (.t 12), some 2, none⟩])
 (.ret))
def J6O : AFn := ⟨1, 13, J5I, [.tmp 2], false⟩
def J8r : Jh := .seq (.reg false [] [⟨.faddr 2 (.t 3), some 72, none⟩,
  ⟨.load false 1 (.t 72), some 73, none⟩,
  ⟨.mv (.t 13), some 74, none⟩,
  ⟨.iaddr 3 (.t 73) (.t 74), some 75, none⟩,
  ⟨.faddr 0 (.t 75), some 76, none⟩,
  ⟨.load false 1 (.t 76), some 77, none⟩,
  ⟨.mv (.t 1), some 78, none⟩,
  ⟨.bin .neq .plain (.t 77) (.t 78), some 79, none⟩])
 (.keep [1, 3, 6, 10, 11, 12, 13, 79] (.cond (.t 79)
 (.reg true [(1, 7)] [⟨.faddr 2 (.t 11), some 80, none⟩,
   ⟨.load false 1 (.t 80), some 81, none⟩,
   ⟨.faddr 2 (.t 3), some 82, none⟩,
   ⟨.load false 1 (.t 82), some 83, none⟩,
   ⟨.mv (.t 13), some 84, none⟩,
   ⟨.iaddr 3 (.t 83) (.t 84), some 85, none⟩,
   ⟨.load true 3 (.t 85), some 86, none⟩,
   ⟨.lits false 3 1 (J4 default) [(0, (.t 86))], some 87, none⟩,
   ⟨.app 3 32 (J4 default) (.t 81) (.t 87), some 88, none⟩,
   ⟨.faddr 2 (.t 11), some 89, none⟩,
   ⟨.store 1 (.t 89) (.t 88), none, none⟩])
 (.skip)))
def Jae : Jh := .reg false [] [⟨.mv (.t 13), some 52, none⟩,
  ⟨.bin .add .plain (.t 52) (.c (.p (.i .i64 1))), some 53, none⟩,
  ⟨.mv (.t 53), some 13, none⟩]
def J1o : Jh := .seq (.seq (.reg false [] [⟨.mv (.t 13), some 47, none⟩,
  ⟨.faddr 2 (.t 3), some 48, none⟩,
  ⟨.load false 1 (.t 48), some 49, none⟩,
  ⟨.len false (.t 49), some 50, none⟩,
  ⟨.bin .lss .plain (.t 47) (.t 50), some 51, none⟩])
 (.keep [1, 3, 6, 10, 11, 12, 13, 51] (.cond (.t 51)
 (.skip)
 (.exit 0))))
 (.seq (.block 1 (.seq (.seq (.reg false [] [⟨.mv (.t 12), some 54, none⟩,
  ⟨.un .not (.t 54), some 55, none⟩,
  ⟨.mv (.t 55), some 56, none⟩,
  ⟨.faddr 2 (.t 3), some 57, some (56, true)⟩,
  ⟨.load false 1 (.t 57), some 58, some (56, true)⟩,
  ⟨.mv (.t 13), some 59, some (56, true)⟩,
  ⟨.iaddr 3 (.t 58) (.t 59), some 60, some (56, true)⟩,
  ⟨.faddr 0 (.t 60), some 61, some (56, true)⟩,
  ⟨.load false 1 (.t 61), some 62, some (56, true)⟩,
  ⟨.mv (.t 1), some 63, some (56, true)⟩,
  ⟨.bin .geq .plain (.t 62) (.t 63), some 64, some (56, true)⟩,
  ⟨.pick (.t 56) (.t 64) (.c (.p (.b false))), some 65, none⟩])
 (.keep [1, 3, 6, 10, 11, 12, 13, 65] (.cond (.t 65)
 (.reg false [] [⟨.faddr 2 (.t 11), some 66, none⟩,
   ⟨.load false 1 (.t 66), some 67, none⟩,
   ⟨.load true 3 (.t 10), some 68, none⟩,
   ⟨.lits false 3 1 (J4 default) [(0, (.t 68))], some 69, none⟩,
   ⟨.app 3 32 (J4 default) (.t 67) (.t 69), some 70, none⟩,
   ⟨.faddr 2 (.t 11), some 71, none⟩,
   ⟨.store 1 (.t 71) (.t 70), none, none⟩,
   ⟨.mv (.c (.p (.b true))), some 12, none⟩])
 (.skip))))
 (.keep [1, 3, 6, 10, 11, 12, 13] J8r)))
 (.keep [1, 3, 6, 10, 11, 12, 13] Jae))
def JbY : Jh := .seq (.reg false [] [⟨.load true 3 (.t 11), some 98, none⟩,
  ⟨.store 3 (.t 6) (.t 98), none, none⟩,
  ⟨.mv (.c (.p (.i .i64 0))), some 7, none⟩])
 (.ret)
def J33 : Jh := .seq (.seq (.reg false [] [⟨.mv (.t 12), some 90, none⟩,
  ⟨.un .not (.t 90), some 91, none⟩])
 (.cond (.t 91)
 (.reg false [] [⟨.faddr 2 (.t 11), some 92, none⟩,
   ⟨.load false 1 (.t 92), some 93, none⟩,
   ⟨.load true 3 (.t 10), some 94, none⟩,
   ⟨.lits false 3 1 (J4 default) [(0, (.t 94))], some 95, none⟩,
   ⟨.app 3 32 (J4 default) (.t 93) (.t 95), some 96, none⟩,
   ⟨.faddr 2 (.t 11), some 97, none⟩,
   ⟨.store 1 (.t 97) (.t 96), none, none⟩])
 (.skip)))
 (.keep [6, 11] JbY)
def J2A : Jh := .seq (.reg false [] [⟨.box 3 (.t 0), some 3, none⟩,
  ⟨.newboxo (J3 default) [(2, 3)], some 6, none⟩,
  ⟨.mv (.c (.p (.i .i64 0))), some 7, none⟩])
 (.keep [1, 2, 3, 6] (.seq (.seq (.reg false [] [⟨.load true 3 (.t 3), some 14, none⟩,
  ⟨.call J2t [(.t 14)] 0, some 15, none⟩,
  ⟨.un .not (.t 15), some 16, none⟩])
 (.keep [1, 2, 3, 6, 16] (.cond (.t 16)
 (.seq (.reg false [] [⟨.buildo (J3 default) [] [(2, 3)], some 17, none⟩,
   ⟨.store 3 (.t 6) (.t 17), none, none⟩,
   ⟨.mv (.c (.p (.i .i64 43))), some 7, none⟩])
  (.ret))
 (.skip))))
 (.seq (.seq (.reg false [] [⟨.mv (.t 1), some 18, none⟩,
  ⟨.bin .lss .plain (.t 18) (.c (.p (.i .i64 0))), some 19, none⟩,
  ⟨.mv (.t 19), some 20, none⟩,
  ⟨.mv (.t 1), some 21, some (20, false)⟩,
  ⟨.faddr 1 (.t 3), some 22, some (20, false)⟩,
  ⟨.load false 1 (.t 22), some 23, some (20, false)⟩,
  ⟨.bin .geq .plain (.t 21) (.t 23), some 24, some (20, false)⟩,
  ⟨.pick (.t 20) (.c (.p (.b true))) (.t 24), some 25, none⟩])
 (.keep [1, 2, 3, 6, 25] (.cond (.t 25)
 (.seq (.reg false [] [⟨.buildo (J3 default) [] [(2, 3)], some 26, none⟩,
   ⟨.store 3 (.t 6) (.t 26), none, none⟩,
   ⟨.mv (.c (.p (.i .i64 1))), some 7, none⟩])
  (.ret))
 (.skip))))
 (.seq (.reg false [] [⟨.mv (.t 2), some 28, none⟩,
  ⟨.mv (.t 1), some 29, none⟩,
  ⟨.call J31 [(.t 28), (.t 29)] 0, some 30, none⟩,
  ⟨.mv (.t 30), some 27, none⟩,
  ⟨.extr (.t 27) 0, some 31, none⟩,
  ⟨.extr (.t 27) 1, some 32, none⟩,
  ⟨.newbox (J5 default), some 8, none⟩,
  ⟨.store 34 (.t 8) (.t 31), none, none⟩,
  ⟨.mv (.t 32), some 9, none⟩])
 (.keep [1, 2, 3, 6, 8, 9] (.seq (.seq (.reg false [] [⟨.mv (.t 9), some 33, none⟩,
  ⟨.bin .neq .plain (.t 33) (.c (.p (.i .i64 0))), some 34, none⟩])
 (.cond (.t 34)
 (.seq (.reg false [] [⟨.buildo (J3 default) [] [(2, 3)], some 35, none⟩,
   ⟨.mv (.t 9), some 36, none⟩,
   ⟨.store 3 (.t 6) (.t 35), none, none⟩,
   ⟨.mv (.t 36), some 7, none⟩])
  (.ret))
 (.skip)))
 (.seq (.reg false [] [⟨.mv (.t 1), some 37, none⟩,
  ⟨.faddr 1 (.t 8), some 38, none⟩,
  ⟨.load false 1 (.t 38), some 39, none⟩,
  ⟨.mv (.t 2), some 40, none⟩,
  ⟨.build (J4 default) [(0, 1, (.t 37)), (1, 1, (.t 39)), (2, 1, (.t 40))], some 41, none⟩,
  ⟨.newbox (J4 default), some 10, none⟩,
  ⟨.store 3 (.t 10) (.t 41), none, none⟩])
 (.keep [1, 3, 6, 10] (.seq (.reg false [] [⟨.faddr 0 (.t 3), some 42, none⟩,
  ⟨.load false 1 (.t 42), some 43, none⟩,
  ⟨.faddr 1 (.t 3), some 44, none⟩,
  ⟨.load false 1 (.t 44), some 45, none⟩,
  ⟨.buildo (J3 default) [(0, 1, (.t 43)), (1, 1, (.t 45))] [(2, 3)], some 46, none⟩,
  ⟨.newboxo (J3 default) [(2, 3)], some 11, none⟩,
  ⟨.store 3 (.t 11) (.t 46), none, none⟩])
 (.keep [1, 3, 6, 10, 11] (.seq (.reg false [] [⟨.mv (.c (.p (.b false))), some 12, none⟩])
 (.seq (.seq (.reg false [] [⟨.mv (.c (.p (.i .i64 0))), some 13, none⟩])
 (.block 0 (.loop [1, 3, 6, 10, 11, 12, 13] J1o)))
 (.keep [6, 10, 11, 12] J33)))))))))))))
def J27 : AFn := ⟨3, 99, J2A, [.cell 6 true 3, .tmp 7], false⟩
def J1D : Jh := .seq (.seq (.reg false [] [⟨.mv (.t 6), some 7, none⟩,
  ⟨.faddr 2 (.t 2), some 8, none⟩,
  ⟨.load false 1 (.t 8), some 9, none⟩,
  ⟨.len false (.t 9), some 10, none⟩,
  ⟨.bin .lss .plain (.t 7) (.t 10), some 11, none⟩,
  ⟨.mv (.t 11), some 12, none⟩,
  ⟨.load true 3 (.t 2), some 13, some (12, true)⟩,
  ⟨.call J2t [(.t 13)] 0, some 14, some (12, true)⟩,
  ⟨.pick (.t 12) (.t 14) (.c (.p (.b false))), some 15, none⟩])
 (.keep [1, 2, 4, 6, 15] (.cond (.t 15)
 (.skip)
 (.exit 0))))
 (.seq (.block 1 (.seq (.reg false [] [⟨.faddr 2 (.t 2), some 18, none⟩,
  ⟨.load false 1 (.t 18), some 19, none⟩,
  ⟨.mv (.t 6), some 20, none⟩,
  ⟨.iaddr 3 (.t 19) (.t 20), some 21, none⟩,
  ⟨.faddr 0 (.t 21), some 22, none⟩,
  ⟨.load false 1 (.t 22), some 23, none⟩,
  ⟨.mv (.t 1), some 24, none⟩,
  ⟨.bin .eql .plain (.t 23) (.t 24), some 25, none⟩])
 (.keep [1, 2, 4, 6, 25] (.cond (.t 25)
 (.seq (.reg false [] [⟨.faddr 2 (.t 2), some 26, none⟩,
   ⟨.load false 1 (.t 26), some 27, none⟩,
   ⟨.mv (.t 6), some 28, none⟩,
   ⟨.iaddr 3 (.t 27) (.t 28), some 29, none⟩,
   ⟨.load true 3 (.t 29), some 30, none⟩,
   ⟨.store 3 (.t 4) (.t 30), none, none⟩,
   ⟨.mv (.c (.p (.b true))), some 5, none⟩])
  (.ret))
 (.skip)))))
 (.reg false [] [⟨.mv (.t 6), some 16, none⟩,
  ⟨.bin .add .plain (.t 16) (.c (.p (.i .i64 1))), some 17, none⟩,
  ⟨.mv (.t 17), some 6, none⟩]))
def J5d : Jh := .seq (.reg false [] [⟨.build (J4 default) [], some 31, none⟩,
  ⟨.store 3 (.t 4) (.t 31), none, none⟩,
  ⟨.mv (.c (.p (.b false))), some 5, none⟩])
 (.ret)
def J9h : Jh := .seq (.reg false [] [⟨.box 3 (.t 0), some 2, none⟩,
  ⟨.newbox (J4 default), some 4, none⟩,
  ⟨.mv (.c (.p (.b false))), some 5, none⟩])
 (.keep [1, 2, 4] (.seq (.seq (.reg false [] [⟨.mv (.c (.p (.i .i64 0))), some 6, none⟩])
 (.block 0 (.loop [1, 2, 4, 6] J1D)))
 (.keep [4] J5d)))
def J2R : AFn := ⟨2, 32, J9h, [.cell 4 true 3, .tmp 5], false⟩
def J4t : Jh := .seq (.reg false [] [⟨.box 3 (.t 0), some 2, none⟩,
  ⟨.newbox (J5 default), some 4, none⟩,
  ⟨.mv (.c (.p (.i .i64 0))), some 5, none⟩])
 (.keep [1, 2, 4] (.seq (.seq (.reg false [] [⟨.load true 3 (.t 2), some 8, none⟩,
  ⟨.call J22 [(.t 8)] 0, some 9, none⟩,
  ⟨.un .not (.t 9), some 10, none⟩])
 (.keep [1, 2, 4, 10] (.cond (.t 10)
 (.seq (.reg false [] [⟨.build (J5 default) [], some 11, none⟩,
   ⟨.store 34 (.t 4) (.t 11), none, none⟩,
   ⟨.mv (.c (.p (.i .i64 43))), some 5, none⟩])
  (.ret))
 (.skip))))
 (.seq (.reg false [] [⟨.load true 3 (.t 2), some 13, none⟩,
  ⟨.mv (.t 1), some 14, none⟩,
  ⟨.call J6t [(.t 13), (.t 14)] 0, some 15, none⟩,
  ⟨.mv (.t 15), some 12, none⟩,
  ⟨.extr (.t 12) 0, some 16, none⟩,
  ⟨.extr (.t 12) 1, some 17, none⟩,
  ⟨.newbox (J4 default), some 6, none⟩,
  ⟨.store 3 (.t 6) (.t 16), none, none⟩,
  ⟨.mv (.t 17), some 7, none⟩])
 (.keep [1, 4, 6, 7] (.seq (.seq (.reg false [] [⟨.mv (.t 7), some 18, none⟩,
  ⟨.un .not (.t 18), some 19, none⟩])
 (.cond (.t 19)
 (.seq (.reg false [] [⟨.build (J5 default) [], some 20, none⟩,
   ⟨.store 34 (.t 4) (.t 20), none, none⟩,
   ⟨.mv (.c (.p (.i .i64 44))), some 5, none⟩])
  (.ret))
 (.skip)))
 (.seq (.reg false [] [⟨.faddr 2 (.t 6), some 21, none⟩,
  ⟨.load false 1 (.t 21), some 22, none⟩,
  ⟨.mv (.t 1), some 23, none⟩,
  ⟨.call J3r [(.t 22), (.t 23)] 0, some 24, none⟩,
  ⟨.extr (.t 24) 0, some 25, none⟩,
  ⟨.extr (.t 24) 1, some 26, none⟩,
  ⟨.store 34 (.t 4) (.t 25), none, none⟩,
  ⟨.mv (.t 26), some 5, none⟩])
 (.ret)))))))
def J7J : AFn := ⟨2, 27, J4t, [.cell 4 true 34, .tmp 5], false⟩
def J4j : Jh := .seq (.reg false [] [⟨.box 3 (.t 0), some 2, none⟩,
  ⟨.newbox (J5 default), some 4, none⟩,
  ⟨.mv (.c (.p (.i .i64 0))), some 5, none⟩])
 (.keep [1, 2, 4] (.seq (.seq (.reg false [] [⟨.load true 3 (.t 2), some 8, none⟩,
  ⟨.call J2t [(.t 8)] 0, some 9, none⟩,
  ⟨.un .not (.t 9), some 10, none⟩])
 (.keep [1, 2, 4, 10] (.cond (.t 10)
 (.seq (.reg false [] [⟨.build (J5 default) [], some 11, none⟩,
   ⟨.store 34 (.t 4) (.t 11), none, none⟩,
   ⟨.mv (.c (.p (.i .i64 43))), some 5, none⟩])
  (.ret))
 (.skip))))
 (.seq (.reg false [] [⟨.load true 3 (.t 2), some 13, none⟩,
  ⟨.mv (.t 1), some 14, none⟩,
  ⟨.call J6y [(.t 13), (.t 14)] 0, some 15, none⟩,
  ⟨.mv (.t 15), some 12, none⟩,
  ⟨.extr (.t 12) 0, some 16, none⟩,
  ⟨.extr (.t 12) 1, some 17, none⟩,
  ⟨.newbox (J4 default), some 6, none⟩,
  ⟨.store 3 (.t 6) (.t 16), none, none⟩,
  ⟨.mv (.t 17), some 7, none⟩])
 (.keep [1, 4, 6, 7] (.seq (.seq (.reg false [] [⟨.mv (.t 7), some 18, none⟩,
  ⟨.un .not (.t 18), some 19, none⟩])
 (.cond (.t 19)
 (.seq (.reg false [] [⟨.build (J5 default) [], some 20, none⟩,
   ⟨.store 34 (.t 4) (.t 20), none, none⟩,
   ⟨.mv (.c (.p (.i .i64 44))), some 5, none⟩])
  (.ret))
 (.skip)))
 (.seq (.reg false [] [⟨.faddr 2 (.t 6), some 21, none⟩,
  ⟨.load false 1 (.t 21), some 22, none⟩,
  ⟨.mv (.t 1), some 23, none⟩,
  ⟨.call J31 [(.t 22), (.t 23)] 0, some 24, none⟩,
  ⟨.extr (.t 24) 0, some 25, none⟩,
  ⟨.extr (.t 24) 1, some 26, none⟩,
  ⟨.store 34 (.t 4) (.t 25), none, none⟩,
  ⟨.mv (.t 26), some 5, none⟩])
 (.ret)))))))
def J7Y : AFn := ⟨2, 27, J4j, [.cell 4 true 34, .tmp 5], false⟩
def J3W : Jh := .seq (.reg false [] [⟨.mv (.c (.p (.b false))), some 0, none⟩])
 (.seq (.reg false [] [⟨.build (J3 default) [(0, 1, (.c (.p (.i .i64 1)))), (1, 1, (.c (.p (.i .i64 1))))], some 4, none⟩,
  ⟨.call J1C [(.t 4)] 0, some 5, none⟩,
  ⟨.mv (.t 5), some 3, none⟩,
  ⟨.extr (.t 3) 0, some 6, none⟩,
  ⟨.extr (.t 3) 1, some 7, none⟩,
  ⟨.mv (.t 6), some 1, none⟩,
  ⟨.mv (.t 7), some 2, none⟩])
 (.keep [1, 2] (.seq (.reg false [] [⟨.mv (.t 2), some 8, none⟩,
  ⟨.bin .eql .plain (.t 8) (.c (.p (.i .i64 0))), some 9, none⟩,
  ⟨.mv (.t 9), some 10, none⟩,
  ⟨.mv (.t 1), some 11, some (10, true)⟩,
  ⟨.len true (.t 11), some 12, some (10, true)⟩,
  ⟨.bin .eql .plain (.t 12) (.c (.p (.i .i64 20))), some 13, some (10, true)⟩,
  ⟨.pick (.t 10) (.t 13) (.c (.p (.b false))), some 14, none⟩,
  ⟨.mv (.t 14), some 15, none⟩,
  ⟨.build (J3 default) [(0, 1, (.c (.p (.i .i64 1)))), (1, 1, (.c (.p (.i .i64 1))))], some 16, some (15, true)⟩,
  ⟨.call J22 [(.t 16)] 0, some 17, some (15, true)⟩,
  ⟨.pick (.t 15) (.t 17) (.c (.p (.b false))), some 18, none⟩,
  ⟨.mv (.t 18), some 0, none⟩])
 (.ret))))
def J6T : AFn := ⟨0, 19, J3W, [.tmp 0], false⟩
def Jby : Jh := .reg false [] [⟨.mv (.t 4), some 18, none⟩,
  ⟨.bin .add .plain (.t 18) (.c (.p (.i .i64 1))), some 19, none⟩,
  ⟨.mv (.t 19), some 4, none⟩]
def J1j : Jh := .seq (.seq (.reg false [] [⟨.mv (.t 4), some 14, none⟩,
  ⟨.faddr 1 (.t 3), some 15, none⟩,
  ⟨.load false 1 (.t 15), some 16, none⟩,
  ⟨.bin .lss .plain (.t 14) (.t 16), some 17, none⟩])
 (.keep [0, 2, 3, 4, 17] (.cond (.t 17)
 (.skip)
 (.exit 0))))
 (.seq (.tidy [0, 2, 3, 4] (.block 1 (.seq (.seq (.reg false [] [⟨.mv (.t 0), some 20, none⟩,
  ⟨.call Jc [(.t 20), (.c (.p (.i .i64 4)))] 0, some 21, none⟩,
  ⟨.bin .eql .plain (.t 21) (.c (.p (.i .i64 0))), some 22, none⟩])
 (.keep [0, 2, 3, 4, 22] (.cond (.t 22)
 (.exit 1)
 (.skip))))
 (.seq (.reg true [(0, 4), (0, 9), (4, 9), (5, 9)] [⟨.load true 3 (.t 3), some 24, none⟩,
  ⟨.mv (.t 4), some 25, none⟩,
  ⟨.mv (.t 0), some 26, none⟩,
  ⟨.mv (.t 4), some 27, none⟩,
  ⟨.call J4k [(.t 26), (.t 27)] 0, some 28, none⟩,
  ⟨.call J6h [(.t 24), (.t 25), (.t 28)] 0, some 29, none⟩,
  ⟨.mv (.t 29), some 23, none⟩,
  ⟨.extr (.t 23) 0, some 30, none⟩,
  ⟨.extr (.t 23) 1, some 31, none⟩,
  ⟨.newbox (J3 default), some 5, none⟩,
  ⟨.store 3 (.t 5) (.t 30), none, none⟩,
  ⟨.mv (.t 31), some 6, none⟩])
 (.keep [0, 2, 3, 4, 5, 6] (.seq (.reg false [] [⟨.mv (.t 6), some 32, none⟩,
  ⟨.bin .eql .plain (.t 32) (.c (.p (.i .i64 0))), some 33, none⟩])
 (.cond (.t 33)
 (.reg false [] [⟨.load true 3 (.t 5), some 34, none⟩,
   ⟨.store 3 (.t 3) (.t 34), none, none⟩])
 (.skip))))))))
 (.keep [0, 2, 3, 4] Jby))
def J43 : Jh := .seq (.reg false [] [⟨.load true 3 (.t 3), some 35, none⟩,
  ⟨.store 3 (.t 2) (.t 35), none, none⟩])
 (.ret)
def J9q : Jh := .seq (.reg false [] [⟨.newbox (J3 default), some 2, none⟩])
 (.seq (.reg false [] [⟨.mv (.t 0), some 7, none⟩,
  ⟨.call Jc [(.t 7), (.c (.p (.i .i64 5)))] 0, some 8, none⟩,
  ⟨.bin .add .plain (.c (.p (.i .i64 1))) (.t 8), some 9, none⟩,
  ⟨.mv (.t 0), some 10, none⟩,
  ⟨.call Jc [(.t 10), (.c (.p (.i .i64 6)))] 0, some 11, none⟩,
  ⟨.bin .add .plain (.c (.p (.i .i64 1))) (.t 11), some 12, none⟩,
  ⟨.build (J3 default) [(0, 1, (.t 9)), (1, 1, (.t 12))], some 13, none⟩,
  ⟨.newbox (J3 default), some 3, none⟩,
  ⟨.store 3 (.t 3) (.t 13), none, none⟩])
 (.keep [0, 2, 3] (.seq (.tidy [2, 3] (.seq (.reg false [] [⟨.mv (.c (.p (.i .i64 0))), some 4, none⟩])
 (.block 0 (.loop [0, 2, 3, 4] J1j))))
 (.keep [2, 3] J43))))
def J2s : AFn := ⟨1, 36, J9q, [.cell 2 true 3], false⟩
def J06 : Jh := .seq (.reg false [] [⟨.load true 3 (.t 10), some 94, none⟩,
  ⟨.mv (.t 12), some 95, none⟩,
  ⟨.mv (.t 13), some 96, none⟩,
  ⟨.call J8J [(.t 94), (.t 95), (.t 96)] 0, some 97, none⟩,
  ⟨.mv (.t 97), some 93, none⟩,
  ⟨.extr (.t 93) 0, some 98, none⟩,
  ⟨.extr (.t 93) 1, some 99, none⟩,
  ⟨.newbox (J3 default), some 14, none⟩,
  ⟨.store 3 (.t 14) (.t 98), none, none⟩,
  ⟨.mv (.t 99), some 15, none⟩])
 (.keep [1, 2, 7, 8, 10, 11, 12, 13, 14, 15, 44, 45, 46] (.seq (.reg false [] [⟨.load true 3 (.t 10), some 101, none⟩,
  ⟨.mv (.t 12), some 102, none⟩,
  ⟨.mv (.t 13), some 103, none⟩,
  ⟨.call J6h [(.t 101), (.t 102), (.t 103)] 0, some 104, none⟩,
  ⟨.mv (.t 104), some 100, none⟩,
  ⟨.extr (.t 100) 0, some 105, none⟩,
  ⟨.extr (.t 100) 1, some 106, none⟩,
  ⟨.newbox (J3 default), some 16, none⟩,
  ⟨.store 3 (.t 16) (.t 105), none, none⟩,
  ⟨.mv (.t 106), some 17, none⟩])
 (.keep [1, 2, 7, 8, 10, 11, 12, 14, 15, 16, 17, 44, 45, 46] (.seq (.reg false [] [⟨.load true 3 (.t 10), some 108, none⟩,
  ⟨.mv (.t 12), some 109, none⟩,
  ⟨.call J6t [(.t 108), (.t 109)] 0, some 110, none⟩,
  ⟨.mv (.t 110), some 107, none⟩,
  ⟨.extr (.t 107) 0, some 111, none⟩,
  ⟨.extr (.t 107) 1, some 112, none⟩,
  ⟨.newbox (J4 default), some 18, none⟩,
  ⟨.store 3 (.t 18) (.t 111), none, none⟩,
  ⟨.mv (.t 112), some 19, none⟩])
 (.keep [1, 2, 7, 8, 10, 11, 12, 14, 15, 16, 17, 18, 19, 44, 45, 46] (.seq (.reg false [] [⟨.load true 3 (.t 10), some 114, none⟩,
  ⟨.mv (.t 12), some 115, none⟩,
  ⟨.call J6y [(.t 114), (.t 115)] 0, some 116, none⟩,
  ⟨.mv (.t 116), some 113, none⟩,
  ⟨.extr (.t 113) 0, some 117, none⟩,
  ⟨.extr (.t 113) 1, some 118, none⟩,
  ⟨.newbox (J4 default), some 20, none⟩,
  ⟨.store 3 (.t 20) (.t 117), none, none⟩,
  ⟨.mv (.t 118), some 21, none⟩])
 (.keep [1, 2, 7, 8, 10, 11, 12, 14, 15, 16, 17, 18, 19, 20, 21, 44, 45, 46] (.seq (.reg false [] [⟨.load true 3 (.t 10), some 120, none⟩,
  ⟨.mv (.t 12), some 121, none⟩,
  ⟨.call J7Z [(.t 120), (.t 121)] 0, some 122, none⟩,
  ⟨.mv (.t 122), some 119, none⟩,
  ⟨.extr (.t 119) 0, some 123, none⟩,
  ⟨.extr (.t 119) 1, some 124, none⟩,
  ⟨.newbox (J5 default), some 22, none⟩,
  ⟨.store 34 (.t 22) (.t 123), none, none⟩,
  ⟨.mv (.t 124), some 23, none⟩])
 (.keep [1, 2, 7, 8, 10, 11, 12, 14, 15, 16, 17, 18, 19, 20, 21, 22, 23, 44, 45, 46] (.seq (.reg false [] [⟨.load true 3 (.t 10), some 126, none⟩,
  ⟨.mv (.t 12), some 127, none⟩,
  ⟨.call J84 [(.t 126), (.t 127)] 0, some 128, none⟩,
  ⟨.mv (.t 128), some 125, none⟩,
  ⟨.extr (.t 125) 0, some 129, none⟩,
  ⟨.extr (.t 125) 1, some 130, none⟩,
  ⟨.newbox (J5 default), some 24, none⟩,
  ⟨.store 34 (.t 24) (.t 129), none, none⟩,
  ⟨.mv (.t 130), some 25, none⟩])
 (.keep [1, 2, 7, 8, 10, 11, 14, 15, 16, 17, 18, 19, 20, 21, 22, 23, 24, 25, 44, 45, 46] (.seq (.reg false [] [⟨.mv (.t 15), some 131, none⟩,
  ⟨.mv (.t 17), some 132, none⟩,
  ⟨.bin .neq .plain (.t 131) (.t 132), some 133, none⟩,
  ⟨.mv (.t 133), some 134, none⟩,
  ⟨.load true 3 (.t 14), some 135, some (134, false)⟩,
  ⟨.load true 3 (.t 16), some 136, some (134, false)⟩,
  ⟨.call J5u [(.t 135), (.t 136)] 0, some 137, some (134, false)⟩,
  ⟨.un .not (.t 137), some 138, some (134, false)⟩,
  ⟨.pick (.t 134) (.c (.p (.b true))) (.t 138), some 139, none⟩,
  ⟨.mv (.t 139), some 140, none⟩,
  ⟨.load true 3 (.t 18), some 141, some (140, false)⟩,
  ⟨.load true 3 (.t 20), some 142, some (140, false)⟩,
  ⟨.bin .neq (.flat [(.i .i64), (.i .i64), .s]) (.t 141) (.t 142), some 143, some (140, false)⟩,
  ⟨.pick (.t 140) (.c (.p (.b true))) (.t 143), some 144, none⟩,
  ⟨.mv (.t 144), some 145, none⟩,
  ⟨.mv (.t 19), some 146, some (145, false)⟩,
  ⟨.mv (.t 21), some 147, some (145, false)⟩,
  ⟨.bin .neq .bool (.t 146) (.t 147), some 148, some (145, false)⟩,
  ⟨.pick (.t 145) (.c (.p (.b true))) (.t 148), some 149, none⟩,
  ⟨.mv (.t 149), some 150, none⟩,
  ⟨.load true 34 (.t 22), some 151, some (150, false)⟩,
  ⟨.load true 34 (.t 24), some 152, some (150, false)⟩,
  ⟨.bin .neq (.flat [(.i .i64), (.i .i64), .b, .s, .b, .s, .b, .s, .b, .s, .b, .s, .b, .s, .b, .s, .b, .s, .b, .s, .b, .s, .b, .s, .b, .s, .b, .s, .b, .s, .b, .s, .b, .s]) (.t 151) (.t 152), some 153, some (150, false)⟩,
  ⟨.pick (.t 150) (.c (.p (.b true))) (.t 153), some 154, none⟩,
  ⟨.mv (.t 154), some 155, none⟩,
  ⟨.mv (.t 23), some 156, some (155, false)⟩,
  ⟨.mv (.t 25), some 157, some (155, false)⟩,
  ⟨.bin .neq .plain (.t 156) (.t 157), some 158, some (155, false)⟩,
  ⟨.pick (.t 155) (.c (.p (.b true))) (.t 158), some 159, none⟩])
 (.keep [1, 2, 7, 8, 10, 11, 44, 45, 46, 159] (.cond (.t 159)
 (.seq (.reg false [] [⟨.mv (.c (.p (.b false))), some 6, none⟩])
  (.ret))
 (.skip)))))))))))))))
def J4i : Jh := .seq (.reg false [] [⟨.mv (.t 7), some 85, none⟩,
  ⟨.mv (.t 11), some 86, none⟩,
  ⟨.mm true (.t 86) (.c (.p (.i .i64 0))), some 87, none⟩,
  ⟨.call J4k [(.t 85), (.t 87)] 0, some 88, none⟩,
  ⟨.mv (.t 88), some 13, none⟩])
 (.keep [1, 2, 7, 8, 10, 11, 12, 13, 44, 45, 46] (.seq (.seq (.reg false [] [⟨.mv (.t 7), some 89, none⟩,
  ⟨.call Jc [(.t 89), (.c (.p (.i .i64 4)))] 0, some 90, none⟩,
  ⟨.bin .eql .plain (.t 90) (.c (.p (.i .i64 0))), some 91, none⟩])
 (.keep [1, 2, 7, 8, 10, 11, 12, 13, 44, 45, 46, 91] (.cond (.t 91)
 (.reg false [] [⟨.mv (.t 2), some 92, none⟩,
   ⟨.mv (.t 92), some 13, none⟩])
 (.skip))))
 (.keep [1, 2, 7, 8, 10, 11, 12, 13, 44, 45, 46] J06)))
def J4q : Jh := .reg false [] [⟨.mv (.t 11), some 79, none⟩,
  ⟨.bin .add .plain (.t 79) (.c (.p (.i .i64 1))), some 80, none⟩,
  ⟨.mv (.t 80), some 11, none⟩]
def J0j : Jh := .seq (.seq (.reg false [] [⟨.mv (.t 11), some 77, none⟩,
  ⟨.bin .lss .plain (.t 77) (.c (.p (.i .i64 8))), some 78, none⟩])
 (.cond (.t 78)
 (.skip)
 (.exit 2)))
 (.seq (.tidy [1, 2, 6, 7, 8, 10, 11, 44, 45, 46] (.block 3 (.seq (.reg false [] [⟨.mv (.t 11), some 81, none⟩,
  ⟨.mv (.t 81), some 12, none⟩])
 (.seq (.seq (.reg false [] [⟨.mv (.t 11), some 82, none⟩,
  ⟨.bin .eql .plain (.t 82) (.c (.p (.i .i64 7))), some 83, none⟩])
 (.cond (.t 83)
 (.reg false [] [⟨.mv (.t 1), some 84, none⟩,
   ⟨.mv (.t 84), some 12, none⟩])
 (.skip)))
 (.keep [1, 2, 7, 8, 10, 11, 12, 44, 45, 46] J4i)))))
 (.keep [1, 2, 7, 8, 10, 11, 44, 45, 46] J4q))
def J0V : Jh := .reg false [] [⟨.bin .add .plain (.t 46) (.c (.p (.i .i64 1))), some 160, none⟩,
  ⟨.mv (.t 160), some 46, none⟩]
def Jz : Jh := .seq (.reg false [] [⟨.bin .lss .plain (.t 46) (.t 45), some 47, none⟩])
 (.seq (.cond (.t 47)
 (.skip)
 (.exit 0))
 (.seq (.tidy [1, 2, 6, 7, 8, 44, 45, 46] (.block 1 (.seq (.reg false [] [⟨.iaddr 3 (.t 44) (.t 46), some 48, none⟩,
  ⟨.load true 3 (.t 48), some 49, none⟩,
  ⟨.newbox (J3 default), some 10, none⟩,
  ⟨.store 3 (.t 10) (.t 49), none, none⟩])
 (.keep [1, 2, 7, 8, 10, 44, 45, 46] (.seq (.seq (.reg true [(1, 2), (7, 8), (21, 22), (21, 23)] [⟨.load true 3 (.t 10), some 50, none⟩,
  ⟨.call J22 [(.t 50)] 0, some 51, none⟩,
  ⟨.load true 3 (.t 10), some 52, none⟩,
  ⟨.call J2t [(.t 52)] 0, some 53, none⟩,
  ⟨.bin .neq .bool (.t 51) (.t 53), some 54, none⟩,
  ⟨.mv (.t 54), some 55, none⟩,
  ⟨.load true 3 (.t 10), some 56, some (55, false)⟩,
  ⟨.call J5P [(.t 56)] 0, some 57, some (55, false)⟩,
  ⟨.load true 3 (.t 10), some 58, some (55, false)⟩,
  ⟨.call J5W [(.t 58)] 0, some 59, some (55, false)⟩,
  ⟨.bin .neq .bool (.t 57) (.t 59), some 60, some (55, false)⟩,
  ⟨.pick (.t 55) (.c (.p (.b true))) (.t 60), some 61, none⟩,
  ⟨.mv (.t 61), some 62, none⟩,
  ⟨.load true 3 (.t 10), some 63, some (62, false)⟩,
  ⟨.load true 3 (.t 10), some 64, some (62, false)⟩,
  ⟨.call J4y [(.t 63), (.t 64)] 0, some 65, some (62, false)⟩,
  ⟨.un .not (.t 65), some 66, some (62, false)⟩,
  ⟨.pick (.t 62) (.c (.p (.b true))) (.t 66), some 67, none⟩,
  ⟨.mv (.t 67), some 68, none⟩,
  ⟨.load true 3 (.t 8), some 69, some (68, false)⟩,
  ⟨.load true 3 (.t 10), some 70, some (68, false)⟩,
  ⟨.call J4y [(.t 69), (.t 70)] 0, some 71, some (68, false)⟩,
  ⟨.load true 3 (.t 8), some 72, some (68, false)⟩,
  ⟨.load true 3 (.t 10), some 73, some (68, false)⟩,
  ⟨.call J5u [(.t 72), (.t 73)] 0, some 74, some (68, false)⟩,
  ⟨.bin .neq .bool (.t 71) (.t 74), some 75, some (68, false)⟩,
  ⟨.pick (.t 68) (.c (.p (.b true))) (.t 75), some 76, none⟩])
 (.keep [1, 2, 7, 8, 10, 44, 45, 46, 76] (.cond (.t 76)
 (.seq (.reg false [] [⟨.mv (.c (.p (.b false))), some 6, none⟩])
  (.ret))
 (.skip))))
 (.seq (.reg false [] [⟨.mv (.c (.p (.i .i64 (-1)))), some 11, none⟩])
 (.block 2 (.loop [1, 2, 7, 8, 10, 11, 44, 45, 46] J0j))))))))
 (.keep [1, 2, 7, 8, 44, 45, 46] J0V)))
def J07 : Jh := .seq (.reg false [] [⟨.mv (.c (.p (.b true))), some 6, none⟩])
 (.ret)
def J1M : Jh := .seq (.reg false [] [⟨.mv (.c (.p (.b false))), some 6, none⟩])
 (.seq (.seq (.reg false [] [⟨.call J6G [] 0, some 26, none⟩,
  ⟨.un .not (.t 26), some 27, none⟩,
  ⟨.mv (.t 27), some 28, none⟩,
  ⟨.mv (.t 2), some 29, some (28, false)⟩,
  ⟨.len true (.t 29), some 30, some (28, false)⟩,
  ⟨.bin .gtr .plain (.t 30) (.c (.p (.i .i64 2000))), some 31, some (28, false)⟩,
  ⟨.pick (.t 28) (.c (.p (.b true))) (.t 31), some 32, none⟩])
 (.keep [0, 1, 2, 32] (.cond (.t 32)
 (.seq (.reg false [] [⟨.mv (.t 2), some 33, none⟩,
   ⟨.len true (.t 33), some 34, none⟩,
   ⟨.bin .gtr .plain (.t 34) (.c (.p (.i .i64 2000))), some 35, none⟩,
   ⟨.mv (.t 35), some 6, none⟩])
  (.ret))
 (.skip))))
 (.seq (.reg false [] [⟨.mv (.t 0), some 36, none⟩,
  ⟨.call J9I [(.t 36), (.c (.p (.i .i64 400)))] 1, some 37, none⟩,
  ⟨.mv (.t 37), some 7, none⟩])
 (.keep [1, 2, 7] (.seq (.reg false [] [⟨.mv (.t 7), some 38, none⟩,
  ⟨.call J7L [(.t 38)] 0, some 39, none⟩,
  ⟨.newbox (J3 default), some 8, none⟩,
  ⟨.store 3 (.t 8) (.t 39), none, none⟩])
 (.keep [1, 2, 7, 8] (.seq (.tidy [6] (.seq (.reg true [(0, 3)] [⟨.load true 3 (.t 8), some 40, none⟩,
  ⟨.mv (.t 7), some 41, none⟩,
  ⟨.load true 3 (.t 8), some 42, none⟩,
  ⟨.call J7z [(.t 41), (.t 42)] 0, some 43, none⟩,
  ⟨.lits false 3 2 (J3 default) [(0, (.t 40)), (1, (.t 43))], some 44, none⟩,
  ⟨.len false (.t 44), some 45, none⟩,
  ⟨.mv (.c (.p (.i .i64 0))), some 46, none⟩])
 (.keep [1, 2, 7, 8, 44, 45, 46] (.block 0 (.loop [1, 2, 7, 8, 44, 45, 46] Jz)))))
 (.keep [] J07)))))))
def JT : AFn := ⟨3, 161, J1M, [.tmp 6], false⟩
theorem JqT : J8p.res = [.tmp 4] ∧ J8p.fresh = false := ⟨rfl, rfl⟩
theorem J9e : J2V.res = [.tmp 4] ∧ J2V.fresh = false := ⟨rfl, rfl⟩
theorem J7H : J4L.res = [.tmp 4] ∧ J4L.fresh = false := ⟨rfl, rfl⟩
theorem Jgp : J10.res = [.tmp 2] ∧ J10.fresh = false := ⟨rfl, rfl⟩
theorem JhH : J0R.res = [.tmp 2] ∧ J0R.fresh = false := ⟨rfl, rfl⟩
theorem Jaq : J5b.res = [.tmp 2] ∧ J5b.fresh = false := ⟨rfl, rfl⟩
theorem JdO : J3K.res = [.tmp 6] ∧ J3K.fresh = false := ⟨rfl, rfl⟩
theorem J8R : J3I.res = [.tmp 6, .tmp 7] ∧ J3I.fresh = false := ⟨rfl, rfl⟩
theorem Jcc : J4J.res = [.cell 2 true 2] ∧ J4J.fresh = false := ⟨rfl, rfl⟩
theorem Jn8 : J6I.res = [.tmp 2] ∧ J6I.fresh = false := ⟨rfl, rfl⟩
theorem JoY : J1e.res = [.tmp 2] ∧ J1e.fresh = false := ⟨rfl, rfl⟩
theorem JaI : J30.res = [.tmp 2] ∧ J30.fresh = false := ⟨rfl, rfl⟩
theorem J41 : JN.res = [.tmp 4] ∧ JN.fresh = false := ⟨rfl, rfl⟩
theorem J98 : J5G.res = [.tmp 2] ∧ J5G.fresh = false := ⟨rfl, rfl⟩
theorem J8T : J3L.res = [.tmp 6, .tmp 7] ∧ J3L.fresh = false := ⟨rfl, rfl⟩
theorem Jp1 : J8I.res = [.cell 2 true 34] ∧ J8I.fresh = false := ⟨rfl, rfl⟩
theorem Jgm : J81.res = [.tmp 2] ∧ J81.fresh = false := ⟨rfl, rfl⟩
theorem JqQ : J9M.res = [.cell 2 true 34] ∧ J9M.fresh = false := ⟨rfl, rfl⟩
theorem Jgk : J05.res = [.cell 0 true 16] ∧ J05.fresh = false := ⟨rfl, rfl⟩
theorem Jiq : J5f.res = [.tmp 4] ∧ J5f.fresh = false := ⟨rfl, rfl⟩
theorem J9T : J4H.res = [.tmp 2] ∧ J4H.fresh = false := ⟨rfl, rfl⟩
theorem JmZ : J6U.res = [.tmp 6] ∧ J6U.fresh = false := ⟨rfl, rfl⟩
theorem JhY : J3G.res = [.cell 2 true 34, .tmp 3] ∧ J3G.fresh = false := ⟨rfl, rfl⟩
theorem J6B : J3D.res = [.tmp 4] ∧ J3D.fresh = false := ⟨rfl, rfl⟩
theorem JhL : J0Q.res = [.cell 4 true 34] ∧ J0Q.fresh = false := ⟨rfl, rfl⟩
theorem Jma : J6M.res = [.tmp 0] ∧ J6M.fresh = false := ⟨rfl, rfl⟩
theorem JoC : J7K.res = [.tmp 0] ∧ J7K.fresh = false := ⟨rfl, rfl⟩
theorem Jd7 : J80.res = [.tmp 4] ∧ J80.fresh = false := ⟨rfl, rfl⟩
theorem Jc5 : J6J.res = [.tmp 2] ∧ J6J.fresh = false := ⟨rfl, rfl⟩
theorem JfF : J2D.res = [] ∧ J2D.fresh = false := ⟨rfl, rfl⟩
theorem Jpk : J3J.res = [.tmp 2] ∧ J3J.fresh = false := ⟨rfl, rfl⟩
theorem J37 : Jr.res = [.tmp 6, .tmp 7] ∧ Jr.fresh = false := ⟨rfl, rfl⟩
theorem JmJ : J6Z.res = [.tmp 4, .tmp 5] ∧ J6Z.fresh = false := ⟨rfl, rfl⟩
theorem Jc9 : J2p.res = [.tmp 2] ∧ J2p.fresh = false := ⟨rfl, rfl⟩
theorem J8P : J8L.res = [.cell 4 true 3] ∧ J8L.fresh = false := ⟨rfl, rfl⟩
theorem JbS : J2r.res = [.tmp 2, .tmp 3] ∧ J2r.fresh = false := ⟨rfl, rfl⟩
theorem Jfm : J76.res = [.tmp 2] ∧ J76.fresh = false := ⟨rfl, rfl⟩
theorem Jc8 : J77.res = [.tmp 2] ∧ J77.fresh = false := ⟨rfl, rfl⟩
theorem J50 : J6H.res = [.cell 2 true 34, .tmp 3] ∧ J6H.fresh = false := ⟨rfl, rfl⟩
theorem JdV : J1h.res = [.tmp 2, .tmp 3] ∧ J1h.fresh = false := ⟨rfl, rfl⟩
theorem JcI : J7Q.res = [.tmp 4] ∧ J7Q.fresh = false := ⟨rfl, rfl⟩
theorem J7n : J5C.res = [.cell 4 true 34, .tmp 5] ∧ J5C.fresh = false := ⟨rfl, rfl⟩
theorem J48 : J1B.res = [.cell 2 true 34, .tmp 3] ∧ J1B.fresh = false := ⟨rfl, rfl⟩
theorem J1Y : J2n.res = [.tmp 2] ∧ J2n.fresh = false := ⟨rfl, rfl⟩
theorem J5l : J58.res = [.cell 4 true 34, .tmp 5] ∧ J58.fresh = false := ⟨rfl, rfl⟩
theorem J9W : J7t.res = [.cell 6 true 3, .tmp 7] ∧ J7t.fresh = false := ⟨rfl, rfl⟩
theorem J9f : J7I.res = [.cell 4 true 3, .tmp 5] ∧ J7I.fresh = false := ⟨rfl, rfl⟩
theorem Jfi : J6W.res = [.tmp 2] ∧ J6W.fresh = false := ⟨rfl, rfl⟩
theorem J21 : J2u.res = [.tmp 2] ∧ J2u.fresh = false := ⟨rfl, rfl⟩
theorem Jf9 : J6O.res = [.tmp 2] ∧ J6O.fresh = false := ⟨rfl, rfl⟩
theorem J9U : J27.res = [.cell 6 true 3, .tmp 7] ∧ J27.fresh = false := ⟨rfl, rfl⟩
theorem Jgw : J2R.res = [.cell 4 true 3, .tmp 5] ∧ J2R.fresh = false := ⟨rfl, rfl⟩
theorem JcF : J7J.res = [.cell 4 true 34, .tmp 5] ∧ J7J.fresh = false := ⟨rfl, rfl⟩
theorem JcU : J7Y.res = [.cell 4 true 34, .tmp 5] ∧ J7Y.fresh = false := ⟨rfl, rfl⟩
theorem JbZ : J6T.res = [.tmp 0] ∧ J6T.fresh = false := ⟨rfl, rfl⟩
theorem JoM : J2s.res = [.cell 2 true 3] ∧ J2s.fresh = false := ⟨rfl, rfl⟩
theorem J0p : JT.res = [.tmp 6] ∧ JT.fresh = false := ⟨rfl, rfl⟩
def fns : List (FuncId × AFn) := [(J9I, J8p), (J5u, J2V), (Jc, J4L), (J4f, J10), (J4P, J0R), (J2X, J5b), (J4h, J3K), (J8Q, J3I), (J4M, J4J), (J3P, J6I), (J7v, J1e), (J88, J30), (J0L, JN), (J5D, J5G), (J6g, J3L), (J8U, J8I), (J6r, J81), (J9G, J9M), (J49, J05), (J0o, J5f), (J4K, J4H), (J3U, J6U), (J8K, J3G), (J3z, J3D), (J4O, J0Q), (J5L, J6M), (J7U, J7K), (J4y, J80), (J7a, J6J), (J15, J2D), (J5q, J3J), (J01, Jr), (J5S, J6Z), (J79, J2p), (J7z, J8L), (J75, J2r), (Jad, J76), (J74, J77), (J6L, J6H), (J5h, J1h), (J4k, J7Q), (J3r, J5C), (J6k, J1B), (J22, J2n), (J31, J58), (J8J, J7t), (J6t, J7I), (J5P, J6W), (J2t, J2u), (J5W, J6O), (J6h, J27), (J6y, J2R), (J7Z, J7J), (J84, J7Y), (J6G, J6T), (J7L, J2s), (J7q, JT)]
def Jk2 : List (FuncId × Jbc) := [(J0O, J1r)]
def Jks : List (FuncId × (List AV → List Blk → Option Res)) := [(J1w, JoS), (J2i, Jnj), (J1c, (Jje 3 32))]
def lkF {α : Type} (f : FuncId) : List (FuncId × α) → Option α
 | [] => none
 | (g, a) :: r => if f = g then some a else lkF f r
def J2 (prims : FuncId → Option (List AV → List Blk → Option Res)) : J5R := fun f => Jue (lkF f fns) (lkF f Jk2) (lkF f Jks) (prims f)
theorem JqD (p) : J2 p J9I = some (.fn J8p) := rfl
theorem Jo0 (p) : J2 p J5u = some (.fn J2V) := rfl
theorem Jhr (p) : J2 p Jc = some (.fn J4L) := rfl
theorem Jgo (p) : J2 p J4f = some (.fn J10) := rfl
theorem JhO (p) : J2 p J4P = some (.fn J0R) := rfl
theorem Jiu (p) : J2 p J2X = some (.fn J5b) := rfl
theorem Jpn (p) : J2 p J4h = some (.fn J3K) := rfl
theorem Jpr (p) : J2 p J8Q = some (.fn J3I) := rfl
theorem Jhf (p) : J2 p J4M = some (.fn J4J) := rfl
theorem JmT (p) : J2 p J3P = some (.fn J6I) := rfl
theorem Jpe (p) : J2 p J7v = some (.fn J1e) := rfl
theorem Joh (p) : J2 p J88 = some (.fn J30) := rfl
theorem Jap (p) : J2 p J0L = some (.fn JN) := rfl
theorem JjD (p) : J2 p J5D = some (.fn J5G) := rfl
theorem Jpl (p) : J2 p J6g = some (.fn J3L) := rfl
theorem Jp5 (p) : J2 p J8U = some (.fn J8I) := rfl
theorem Jo5 (p) : J2 p J6r = some (.fn J81) := rfl
theorem Jr2 (p) : J2 p J9G = some (.fn J9M) := rfl
theorem JfQ (p) : J2 p J49 = some (.fn J05) := rfl
theorem JiO (p) : J2 p J0o = some (.fn J5f) := rfl
theorem JhG (p) : J2 p J4K = some (.fn J4H) := rfl
theorem Jmo (p) : J2 p J3U = some (.fn J6U) := rfl
theorem JpI (p) : J2 p J8K = some (.fn J3G) := rfl
theorem JfN (p) : J2 p J3z = some (.fn J3D) := rfl
theorem JhM (p) : J2 p J4O = some (.fn J0Q) := rfl
theorem JmY (p) : J2 p J5L = some (.fn J6M) := rfl
theorem Joj (p) : J2 p J7U = some (.fn J7K) := rfl
theorem Joy (p) : J2 p J4y = some (.fn J80) := rfl
theorem JmX (p) : J2 p J7a = some (.fn J6J) := rfl
theorem JfP (p) : J2 p J15 = some (.fn J2D) := rfl
theorem JoX (p) : J2 p J5q = some (.fn J3J) := rfl
theorem J6E (p) : J2 p J01 = some (.fn Jr) := rfl
theorem JmD (p) : J2 p J5S = some (.fn J6Z) := rfl
theorem JmL (p) : J2 p J79 = some (.fn J2p) := rfl
theorem JpN (p) : J2 p J7z = some (.fn J8L) := rfl
theorem JmQ (p) : J2 p J75 = some (.fn J2r) := rfl
theorem Jmw (p) : J2 p Jad = some (.fn J76) := rfl
theorem JmP (p) : J2 p J74 = some (.fn J77) := rfl
theorem JmW (p) : J2 p J6L = some (.fn J6H) := rfl
theorem Jl3 (p) : J2 p J5h = some (.fn J1h) := rfl
theorem Jnq (p) : J2 p J4k = some (.fn J7Q) := rfl
theorem Jjy (p) : J2 p J3r = some (.fn J5C) := rfl
theorem Jlj (p) : J2 p J6k = some (.fn J1B) := rfl
theorem Jm6 (p) : J2 p J22 = some (.fn J2n) := rfl
theorem Jix (p) : J2 p J31 = some (.fn J58) := rfl
theorem Jph (p) : J2 p J8J = some (.fn J7t) := rfl
theorem Jnk (p) : J2 p J6t = some (.fn J7I) := rfl
theorem Jn7 (p) : J2 p J5P = some (.fn J6W) := rfl
theorem Jmm (p) : J2 p J2t = some (.fn J2u) := rfl
theorem JmI (p) : J2 p J5W = some (.fn J6O) := rfl
theorem Jp3 (p) : J2 p J6h = some (.fn J27) := rfl
theorem Jom (p) : J2 p J6y = some (.fn J2R) := rfl
theorem JnB (p) : J2 p J7Z = some (.fn J7J) := rfl
theorem Jot (p) : J2 p J84 = some (.fn J7Y) := rfl
theorem JmU (p) : J2 p J6G = some (.fn J6T) := rfl
theorem JoQ (p) : J2 p J7L = some (.fn J2s) := rfl
theorem Jgu (p) : J2 p J7q = some (.fn JT) := rfl
theorem JaA (p) : J2 p J0O = some (.fork J1r) := rfl
theorem JpC (p) : J2 p J1w = some (.prim JoS) := rfl
theorem Jil (p) : J2 p J2i = some (.prim Jnj) := rfl
theorem Ja6 (p) : J2 p J1c = some (.prim (Jje 3 32)) := rfl
end Go.Am
end
