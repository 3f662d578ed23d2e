/-
  Parts of a proof.
-/
import Derived.Test.YtiallbcnaadmoaaM6
import Derived.Test.YtiallbcnaadmoaaM7
import Derived.Test.YtiallbcnaadmoaaM8
open Nat (reduceEqDiff reduceAdd reduceLT reduceMul)
set_option linter.unusedSimpArgs false
set_option linter.unusedVariables false
section
namespace Go.Am
set_option maxRecDepth 8000
set_option maxHeartbeats 4000000
set_option linter.unusedSimpArgs false
set_option linter.unusedVariables false
structure T_api_Copy where
 Page : Int
 LSN : Int
 Data : List UInt8
 deriving DecidableEq
instance : Inhabited T_api_Copy := ⟨⟨0, 0, []⟩⟩
def J6 (x : T_api_Copy) : List PV := (cat [.i .i64 x.Page] (cat [.i .i64 x.LSN] [.s x.Data]))
theorem J9Y (x : T_api_Copy) : (J6 x).length = 3 := by
 simp only [cat, J6, List.length_append, List.length_cons, List.length_nil]
theorem JfX (x : T_api_Copy) : sub (J6 x) 0 1 = some [.i .i64 x.Page] := by unfold J6; exact J8y rfl
theorem JfQ (x : T_api_Copy) (y : Int) : spl (J6 x) 0 [.i .i64 y] = some (J6 ⟨y, x.LSN, x.Data⟩) := by unfold J6; exact J8I rfl
theorem JgE (x : T_api_Copy) : sub (J6 x) 1 1 = some [.i .i64 x.LSN] := by
 have e0 : J6 x = cat [.i .i64 x.Page] (cat [.i .i64 x.LSN] [.s x.Data]) := by unfold J6; simp only [cat, List.append_assoc]
 rw [e0]; exact JaK (by simp only [cat, List.length_append, List.length_cons, List.length_nil]) rfl
theorem Jhy (x : T_api_Copy) (y : Int) : spl (J6 x) 1 [.i .i64 y] = some (J6 ⟨x.Page, y, x.Data⟩) := by
 have e0 : J6 x = cat [.i .i64 x.Page] (cat [.i .i64 x.LSN] [.s x.Data]) := by unfold J6; simp only [cat, List.append_assoc]
 have e1 : J6 ⟨x.Page, y, x.Data⟩ = cat [.i .i64 x.Page] (cat [.i .i64 y] [.s x.Data]) := by unfold J6; simp only [cat, List.append_assoc]
 rw [e0, e1]; exact JaG (by simp only [cat, List.length_append, List.length_cons, List.length_nil]) rfl
theorem JfL (x : T_api_Copy) : sub (J6 x) 2 1 = some [.s x.Data] := by
 have e0 : J6 x = cat (cat [.i .i64 x.Page] [.i .i64 x.LSN]) [.s x.Data] := by unfold J6; simp only [cat, List.append_assoc]
 rw [e0]; exact J9U (by simp only [cat, List.length_append, List.length_cons, List.length_nil]) rfl
theorem Jg2 (x : T_api_Copy) (y : List UInt8) : spl (J6 x) 2 [.s y] = some (J6 ⟨x.Page, x.LSN, y⟩) := by
 have e0 : J6 x = cat (cat [.i .i64 x.Page] [.i .i64 x.LSN]) [.s x.Data] := by unfold J6; simp only [cat, List.append_assoc]
 have e1 : J6 ⟨x.Page, x.LSN, y⟩ = cat (cat [.i .i64 x.Page] [.i .i64 x.LSN]) [.s y] := by unfold J6; simp only [cat, List.append_assoc]
 rw [e0, e1]; exact J9S (by simp only [cat, List.length_append, List.length_cons, List.length_nil]) rfl
theorem Jmf : (default : T_api_Copy) = (⟨0, 0, []⟩ : T_api_Copy) := rfl
theorem JkM (x : T_api_Copy) : sub (J6 x) 0 3 = some (J6 x) := Jav (J9Y x)
theorem JkH (x y : T_api_Copy) : spl (J6 x) 0 (J6 y) = some (J6 y) := Jas ((J9Y x).trans (J9Y y).symm)
theorem J8 : (∀ x : T_api_Copy, (J6 x).length = 3) ∧
 (∀ x : T_api_Copy, sub (J6 x) 0 1 = some [.i .i64 x.Page]) ∧
 (∀ (x : T_api_Copy) (y : Int), spl (J6 x) 0 [.i .i64 y] = some (J6 ⟨y, x.LSN, x.Data⟩)) ∧
 (∀ x : T_api_Copy, sub (J6 x) 1 1 = some [.i .i64 x.LSN]) ∧
 (∀ (x : T_api_Copy) (y : Int), spl (J6 x) 1 [.i .i64 y] = some (J6 ⟨x.Page, y, x.Data⟩)) ∧
 (∀ x : T_api_Copy, sub (J6 x) 2 1 = some [.s x.Data]) ∧
 (∀ (x : T_api_Copy) (y : List UInt8), spl (J6 x) 2 [.s y] = some (J6 ⟨x.Page, x.LSN, y⟩)) ∧
 ((default : T_api_Copy) = (⟨0, 0, []⟩ : T_api_Copy)) ∧
 (∀ x : T_api_Copy, sub (J6 x) 0 3 = some (J6 x)) ∧
 (∀ x y : T_api_Copy, spl (J6 x) 0 (J6 y) = some (J6 y)) :=
 ⟨@J9Y, @JfX, @JfQ, @JgE, @Jhy, @JfL, @Jg2, Jmf, @JkM, @JkH⟩
theorem Jw : (∀ x : T_api_Copy, J6 x = (cat [.i .i64 x.Page] (cat [.i .i64 x.LSN] [.s x.Data]))) ∧ (default : T_api_Copy) = (⟨0, 0, []⟩ : T_api_Copy) := ⟨fun _ => rfl, rfl⟩
structure T_api_Image where
 ID : Int
 Pages : Int
 Copies : List T_api_Copy
 deriving DecidableEq
instance : Inhabited T_api_Image := ⟨⟨0, 0, []⟩⟩
def J7 (x : T_api_Image) : List PV := (cat [.i .i64 x.ID] (cat [.i .i64 x.Pages] [.sl 3 (List.map J6 x.Copies)]))
theorem J9a (x : T_api_Image) : (J7 x).length = 3 := by
 simp only [cat, J7, List.length_append, List.length_cons, List.length_nil]
theorem JhC (x : T_api_Image) : sub (J7 x) 0 1 = some [.i .i64 x.ID] := by unfold J7; exact J8y rfl
theorem JgT (x : T_api_Image) (y : Int) : spl (J7 x) 0 [.i .i64 y] = some (J7 ⟨y, x.Pages, x.Copies⟩) := by unfold J7; exact J8I rfl
theorem Jes (x : T_api_Image) : sub (J7 x) 1 1 = some [.i .i64 x.Pages] := by
 have e0 : J7 x = cat [.i .i64 x.ID] (cat [.i .i64 x.Pages] [.sl 3 (List.map J6 x.Copies)]) := by unfold J7; simp only [cat, List.append_assoc]
 rw [e0]; exact JaK (by simp only [cat, List.length_append, List.length_cons, List.length_nil]) rfl
theorem Jer (x : T_api_Image) (y : Int) : spl (J7 x) 1 [.i .i64 y] = some (J7 ⟨x.ID, y, x.Copies⟩) := by
 have e0 : J7 x = cat [.i .i64 x.ID] (cat [.i .i64 x.Pages] [.sl 3 (List.map J6 x.Copies)]) := by unfold J7; simp only [cat, List.append_assoc]
 have e1 : J7 ⟨x.ID, y, x.Copies⟩ = cat [.i .i64 x.ID] (cat [.i .i64 y] [.sl 3 (List.map J6 x.Copies)]) := by unfold J7; simp only [cat, List.append_assoc]
 rw [e0, e1]; exact JaG (by simp only [cat, List.length_append, List.length_cons, List.length_nil]) rfl
theorem JdK (x : T_api_Image) : sub (J7 x) 2 1 = some [.sl 3 (List.map J6 x.Copies)] := by
 have e0 : J7 x = cat (cat [.i .i64 x.ID] [.i .i64 x.Pages]) [.sl 3 (List.map J6 x.Copies)] := by unfold J7; simp only [cat, List.append_assoc]
 rw [e0]; exact J9U (by simp only [cat, List.length_append, List.length_cons, List.length_nil]) rfl
theorem JdA (x : T_api_Image) (y : List T_api_Copy) : spl (J7 x) 2 [.sl 3 (List.map J6 y)] = some (J7 ⟨x.ID, x.Pages, y⟩) := by
 have e0 : J7 x = cat (cat [.i .i64 x.ID] [.i .i64 x.Pages]) [.sl 3 (List.map J6 x.Copies)] := by unfold J7; simp only [cat, List.append_assoc]
 have e1 : J7 ⟨x.ID, x.Pages, y⟩ = cat (cat [.i .i64 x.ID] [.i .i64 x.Pages]) [.sl 3 (List.map J6 y)] := by unfold J7; simp only [cat, List.append_assoc]
 rw [e0, e1]; exact J9S (by simp only [cat, List.length_append, List.length_cons, List.length_nil]) rfl
theorem Jky : (default : T_api_Image) = (⟨0, 0, []⟩ : T_api_Image) := rfl
theorem Jjq (x : T_api_Image) : sub (J7 x) 0 3 = some (J7 x) := Jav (J9a x)
theorem JiX (x y : T_api_Image) : spl (J7 x) 0 (J7 y) = some (J7 y) := Jas ((J9a x).trans (J9a y).symm)
theorem J9 : (∀ x : T_api_Image, (J7 x).length = 3) ∧
 (∀ x : T_api_Image, sub (J7 x) 0 1 = some [.i .i64 x.ID]) ∧
 (∀ (x : T_api_Image) (y : Int), spl (J7 x) 0 [.i .i64 y] = some (J7 ⟨y, x.Pages, x.Copies⟩)) ∧
 (∀ x : T_api_Image, sub (J7 x) 1 1 = some [.i .i64 x.Pages]) ∧
 (∀ (x : T_api_Image) (y : Int), spl (J7 x) 1 [.i .i64 y] = some (J7 ⟨x.ID, y, x.Copies⟩)) ∧
 (∀ x : T_api_Image, sub (J7 x) 2 1 = some [.sl 3 (List.map J6 x.Copies)]) ∧
 (∀ (x : T_api_Image) (y : List T_api_Copy), spl (J7 x) 2 [.sl 3 (List.map J6 y)] = some (J7 ⟨x.ID, x.Pages, y⟩)) ∧
 ((default : T_api_Image) = (⟨0, 0, []⟩ : T_api_Image)) ∧
 (∀ x : T_api_Image, sub (J7 x) 0 3 = some (J7 x)) ∧
 (∀ x y : T_api_Image, spl (J7 x) 0 (J7 y) = some (J7 y)) :=
 ⟨@J9a, @JhC, @JgT, @Jes, @Jer, @JdK, @JdA, Jky, @Jjq, @JiX⟩
theorem Jt : (∀ x : T_api_Image, J7 x = (cat [.i .i64 x.ID] (cat [.i .i64 x.Pages] [.sl 3 (List.map J6 x.Copies)]))) ∧ (default : T_api_Image) = (⟨0, 0, []⟩ : T_api_Image) := ⟨fun _ => rfl, rfl⟩
structure Jc where
 Set : Bool
 Data : List UInt8
 deriving DecidableEq
instance : Inhabited Jc := ⟨⟨false, []⟩⟩
def Jg (x : Jc) : List PV := (cat [.b x.Set] [.s x.Data])
theorem JV (x : Jc) : (Jg x).length = 2 := by
 simp only [cat, Jg, List.length_append, List.length_cons, List.length_nil]
theorem J9x (x : Jc) : sub (Jg x) 0 1 = some [.b x.Set] := by unfold Jg; exact J8y rfl
theorem Jhm (x : Jc) (y : Bool) : spl (Jg x) 0 [.b y] = some (Jg ⟨y, x.Data⟩) := by unfold Jg; exact J8I rfl
theorem J6Q (x : Jc) : sub (Jg x) 1 1 = some [.s x.Data] := by
 have e0 : Jg x = cat [.b x.Set] [.s x.Data] := by unfold Jg; simp only [cat, List.append_assoc]
 rw [e0]; exact J9U (by simp only [cat, List.length_append, List.length_cons, List.length_nil]) rfl
theorem JfP (x : Jc) (y : List UInt8) : spl (Jg x) 1 [.s y] = some (Jg ⟨x.Set, y⟩) := by
 have e0 : Jg x = cat [.b x.Set] [.s x.Data] := by unfold Jg; simp only [cat, List.append_assoc]
 have e1 : Jg ⟨x.Set, y⟩ = cat [.b x.Set] [.s y] := by unfold Jg; simp only [cat, List.append_assoc]
 rw [e0, e1]; exact J9S (by simp only [cat, List.length_append, List.length_cons, List.length_nil]) rfl
theorem Jmb : (default : Jc) = (⟨false, []⟩ : Jc) := rfl
theorem JkK (x : Jc) : sub (Jg x) 0 2 = some (Jg x) := Jav (JV x)
theorem Jkx (x y : Jc) : spl (Jg x) 0 (Jg y) = some (Jg y) := Jas ((JV x).trans (JV y).symm)
theorem J5 : (∀ x : Jc, (Jg x).length = 2) ∧
 (∀ x : Jc, sub (Jg x) 0 1 = some [.b x.Set]) ∧
 (∀ (x : Jc) (y : Bool), spl (Jg x) 0 [.b y] = some (Jg ⟨y, x.Data⟩)) ∧
 (∀ x : Jc, sub (Jg x) 1 1 = some [.s x.Data]) ∧
 (∀ (x : Jc) (y : List UInt8), spl (Jg x) 1 [.s y] = some (Jg ⟨x.Set, y⟩)) ∧
 ((default : Jc) = (⟨false, []⟩ : Jc)) ∧
 (∀ x : Jc, sub (Jg x) 0 2 = some (Jg x)) ∧
 (∀ x y : Jc, spl (Jg x) 0 (Jg y) = some (Jg y)) :=
 ⟨@JV, @J9x, @Jhm, @J6Q, @JfP, Jmb, @JkK, @Jkx⟩
theorem J05 : (∀ x : Jc, Jg x = (cat [.b x.Set] [.s x.Data])) ∧ (default : Jc) = (⟨false, []⟩ : Jc) := ⟨fun _ => rfl, rfl⟩
theorem J1 : (∀ v : Vector Jc 16, (J06 Jg v).length = 32) ∧ (∀ v : Vector Jc 16, sub (J06 Jg v) 0 32 = some (J06 Jg v)) ∧ (∀ v y : Vector Jc 16, spl (J06 Jg v) 0 (J06 Jg y) = some (J06 Jg y)) :=
 ⟨fun v => J5o JV v, fun v => Jav (J5o JV v), fun v y => Jas ((J5o JV v).trans (J5o JV y).symm)⟩
structure T_api_Page where
 ID : Int
 LSN : Int
 Cells : Vector Jc 16
 deriving DecidableEq
instance : Inhabited T_api_Page := ⟨⟨0, 0, (Vector.replicate 16 (⟨false, []⟩ : Jc))⟩⟩
def J4 (x : T_api_Page) : List PV := (cat [.i .i64 x.ID] (cat [.i .i64 x.LSN] ((J06 Jg) x.Cells)))
theorem Ja3 (x : T_api_Page) : (J4 x).length = 34 := by
 simp only [cat, J4, (J5o JV x.Cells), List.length_append, List.length_cons, List.length_nil]
theorem JhW (x : T_api_Page) : sub (J4 x) 0 1 = some [.i .i64 x.ID] := by unfold J4; exact J8y rfl
theorem JiK (x : T_api_Page) (y : Int) : spl (J4 x) 0 [.i .i64 y] = some (J4 ⟨y, x.LSN, x.Cells⟩) := by unfold J4; exact J8I rfl
theorem Jhu (x : T_api_Page) : sub (J4 x) 1 1 = some [.i .i64 x.LSN] := by
 have e0 : J4 x = cat [.i .i64 x.ID] (cat [.i .i64 x.LSN] ((J06 Jg) x.Cells)) := by unfold J4; simp only [cat, List.append_assoc]
 rw [e0]; exact JaK (by simp only [cat, List.length_append, List.length_cons, List.length_nil, (J5o JV x.Cells)]) rfl
theorem JgS (x : T_api_Page) (y : Int) : spl (J4 x) 1 [.i .i64 y] = some (J4 ⟨x.ID, y, x.Cells⟩) := by
 have e0 : J4 x = cat [.i .i64 x.ID] (cat [.i .i64 x.LSN] ((J06 Jg) x.Cells)) := by unfold J4; simp only [cat, List.append_assoc]
 have e1 : J4 ⟨x.ID, y, x.Cells⟩ = cat [.i .i64 x.ID] (cat [.i .i64 y] ((J06 Jg) x.Cells)) := by unfold J4; simp only [cat, List.append_assoc]
 rw [e0, e1]; exact JaG (by simp only [cat, List.length_append, List.length_cons, List.length_nil, (J5o JV x.Cells)]) rfl
theorem J1c (x : T_api_Page) : sub (J4 x) 2 32 = some ((J06 Jg) x.Cells) := by
 have e0 : J4 x = cat (cat [.i .i64 x.ID] [.i .i64 x.LSN]) ((J06 Jg) x.Cells) := by unfold J4; simp only [cat, List.append_assoc]
 rw [e0]; exact J9U (by simp only [cat, List.length_append, List.length_cons, List.length_nil, (J5o JV x.Cells)]) (J5o JV _)
theorem J6q (x : T_api_Page) (y : Vector Jc 16) : spl (J4 x) 2 ((J06 Jg) y) = some (J4 ⟨x.ID, x.LSN, y⟩) := by
 have e0 : J4 x = cat (cat [.i .i64 x.ID] [.i .i64 x.LSN]) ((J06 Jg) x.Cells) := by unfold J4; simp only [cat, List.append_assoc]
 have e1 : J4 ⟨x.ID, x.LSN, y⟩ = cat (cat [.i .i64 x.ID] [.i .i64 x.LSN]) ((J06 Jg) y) := by unfold J4; simp only [cat, List.append_assoc]
 rw [e0, e1]; exact J9S (by simp only [cat, List.length_append, List.length_cons, List.length_nil, (J5o JV x.Cells)]) ((J5o JV _).trans (J5o JV _).symm)
theorem JlZ : (default : T_api_Page) = (⟨0, 0, (Vector.replicate 16 (⟨false, []⟩ : Jc))⟩ : T_api_Page) := rfl
theorem Jkv (x : T_api_Page) : sub (J4 x) 0 34 = some (J4 x) := Jav (Ja3 x)
theorem Jkk (x y : T_api_Page) : spl (J4 x) 0 (J4 y) = some (J4 y) := Jas ((Ja3 x).trans (Ja3 y).symm)
theorem J3 : (∀ x : T_api_Page, (J4 x).length = 34) ∧
 (∀ x : T_api_Page, sub (J4 x) 0 1 = some [.i .i64 x.ID]) ∧
 (∀ (x : T_api_Page) (y : Int), spl (J4 x) 0 [.i .i64 y] = some (J4 ⟨y, x.LSN, x.Cells⟩)) ∧
 (∀ x : T_api_Page, sub (J4 x) 1 1 = some [.i .i64 x.LSN]) ∧
 (∀ (x : T_api_Page) (y : Int), spl (J4 x) 1 [.i .i64 y] = some (J4 ⟨x.ID, y, x.Cells⟩)) ∧
 (∀ x : T_api_Page, sub (J4 x) 2 32 = some ((J06 Jg) x.Cells)) ∧
 (∀ (x : T_api_Page) (y : Vector Jc 16), spl (J4 x) 2 ((J06 Jg) y) = some (J4 ⟨x.ID, x.LSN, y⟩)) ∧
 ((default : T_api_Page) = (⟨0, 0, (Vector.replicate 16 (⟨false, []⟩ : Jc))⟩ : T_api_Page)) ∧
 (∀ x : T_api_Page, sub (J4 x) 0 34 = some (J4 x)) ∧
 (∀ x y : T_api_Page, spl (J4 x) 0 (J4 y) = some (J4 y)) :=
 ⟨@Ja3, @JhW, @JiK, @Jhu, @JgS, @J1c, @J6q, JlZ, @Jkv, @Jkk⟩
structure T_pagemenddraw_Codes where
 l_ : List Int
 at_ : Int
 deriving DecidableEq
instance : Inhabited T_pagemenddraw_Codes := ⟨⟨[], 0⟩⟩
def J0 (x : T_pagemenddraw_Codes) : List PV := (cat [.sl 1 (List.map (r_i .u8) x.l_)] [.i .i64 x.at_])
theorem J4P (x : T_pagemenddraw_Codes) : (J0 x).length = 2 := by
 simp only [cat, J0, List.length_append, List.length_cons, List.length_nil]
theorem Jbd (x : T_pagemenddraw_Codes) : sub (J0 x) 0 1 = some [.sl 1 (List.map (r_i .u8) x.l_)] := by unfold J0; exact J8y rfl
theorem Jbc (x : T_pagemenddraw_Codes) (y : List Int) : spl (J0 x) 0 [.sl 1 (List.map (r_i .u8) y)] = some (J0 ⟨y, x.at_⟩) := by unfold J0; exact J8I rfl
theorem JaP (x : T_pagemenddraw_Codes) : sub (J0 x) 1 1 = some [.i .i64 x.at_] := by
 have e0 : J0 x = cat [.sl 1 (List.map (r_i .u8) x.l_)] [.i .i64 x.at_] := by unfold J0; simp only [cat, List.append_assoc]
 rw [e0]; exact J9U (by simp only [cat, List.length_append, List.length_cons, List.length_nil]) rfl
theorem JaW (x : T_pagemenddraw_Codes) (y : Int) : spl (J0 x) 1 [.i .i64 y] = some (J0 ⟨x.l_, y⟩) := by
 have e0 : J0 x = cat [.sl 1 (List.map (r_i .u8) x.l_)] [.i .i64 x.at_] := by unfold J0; simp only [cat, List.append_assoc]
 have e1 : J0 ⟨x.l_, y⟩ = cat [.sl 1 (List.map (r_i .u8) x.l_)] [.i .i64 y] := by unfold J0; simp only [cat, List.append_assoc]
 rw [e0, e1]; exact J9S (by simp only [cat, List.length_append, List.length_cons, List.length_nil]) rfl
theorem Jcy : (default : T_pagemenddraw_Codes) = (⟨[], 0⟩ : T_pagemenddraw_Codes) := rfl
theorem Jc1 (x : T_pagemenddraw_Codes) : sub (J0 x) 0 2 = some (J0 x) := Jav (J4P x)
theorem Jc3 (x y : T_pagemenddraw_Codes) : spl (J0 x) 0 (J0 y) = some (J0 y) := Jas ((J4P x).trans (J4P y).symm)
theorem Ja : (∀ x : T_pagemenddraw_Codes, (J0 x).length = 2) ∧
 (∀ x : T_pagemenddraw_Codes, sub (J0 x) 0 1 = some [.sl 1 (List.map (r_i .u8) x.l_)]) ∧
 (∀ (x : T_pagemenddraw_Codes) (y : List Int), spl (J0 x) 0 [.sl 1 (List.map (r_i .u8) y)] = some (J0 ⟨y, x.at_⟩)) ∧
 (∀ x : T_pagemenddraw_Codes, sub (J0 x) 1 1 = some [.i .i64 x.at_]) ∧
 (∀ (x : T_pagemenddraw_Codes) (y : Int), spl (J0 x) 1 [.i .i64 y] = some (J0 ⟨x.l_, y⟩)) ∧
 ((default : T_pagemenddraw_Codes) = (⟨[], 0⟩ : T_pagemenddraw_Codes)) ∧
 (∀ x : T_pagemenddraw_Codes, sub (J0 x) 0 2 = some (J0 x)) ∧
 (∀ x y : T_pagemenddraw_Codes, spl (J0 x) 0 (J0 y) = some (J0 y)) :=
 ⟨@J4P, @Jbd, @Jbc, @JaP, @JaW, Jcy, @Jc1, @Jc3⟩
structure T_page_builder where
 s_ : List UInt8
 deriving DecidableEq
instance : Inhabited T_page_builder := ⟨⟨[]⟩⟩
def J0J (x : T_page_builder) : List PV := [.s x.s_]
theorem JA : (∀ x : T_page_builder, J0J x = [.s x.s_]) ∧ (default : T_page_builder) = (⟨[]⟩ : T_page_builder) := ⟨fun _ => rfl, rfl⟩
theorem J6y : (∀ v : Vector Int 16, (J06 (r_i .u32) v).length = 16) ∧ (∀ v : Vector Int 16, sub (J06 (r_i .u32) v) 0 16 = some (J06 (r_i .u32) v)) ∧ (∀ v y : Vector Int 16, spl (J06 (r_i .u32) v) 0 (J06 (r_i .u32) y) = some (J06 (r_i .u32) y)) :=
 ⟨fun v => J5o (Jan .u32) v, fun v => Jav (J5o (Jan .u32) v), fun v y => Jas ((J5o (Jan .u32) v).trans (J5o (Jan .u32) y).symm)⟩
theorem Jkz (x y : T_api_Copy) : J1E [(.i .i64), (.i .i64), .s] (J6 x) (J6 y) = some (decide (x = y)) := by
 have h := (Jo9 (Jss .i64 x.Page y.Page) (Jo9 (Jss .i64 x.LSN y.LSN) (Jvq x.Data y.Data)))
 have e : decide (x.Page = y.Page ∧ (x.LSN = y.LSN ∧ (x.Data = y.Data))) = decide (x = y) := decide_eq_decide.2 (by cases x; cases y; simp only [T_api_Copy.mk.injEq])
 exact h.trans (congrArg some e)
theorem J4W (x y : T_api_Copy) : J1E [(.i .i64), (.i .i64), .s] (J6 x) (J6 y) = some (x == y) := Jkz x y
end Go.Am
end
section
namespace Go.Am
set_option maxRecDepth 8000
set_option maxHeartbeats 4000000
set_option linter.unusedSimpArgs false
set_option linter.unusedVariables false
abbrev J6O : FuncId := 11
abbrev J61 : FuncId := 18
abbrev J8w : FuncId := 19
abbrev J6V : FuncId := 20
abbrev J1u : FuncId := 22
abbrev J1r : FuncId := 30
abbrev Jh : FuncId := 31
abbrev J2Q : FuncId := 32
abbrev J5l : FuncId := 34
abbrev J6c : FuncId := 37
abbrev J6U : FuncId := 40
abbrev J78 : FuncId := 41
abbrev J4N : FuncId := 42
abbrev J4Q : FuncId := 43
abbrev J3F : FuncId := 52
abbrev J3w : FuncId := 57
abbrev J4a : FuncId := 64
abbrev J5T : FuncId := 69
abbrev J5L : FuncId := 71
abbrev J6F : FuncId := 72
abbrev J9f : FuncId := 107
abbrev J1q : FuncId := 108
abbrev J3P : FuncId := 110
abbrev J7J : FuncId := 114
abbrev J3z : FuncId := 118
abbrev J4c : FuncId := 120
abbrev J6b : FuncId := 121
abbrev J3y : FuncId := 122
abbrev J6G : FuncId := 123
abbrev J3Q : FuncId := 126
abbrev J6g : FuncId := 128
abbrev J74 : FuncId := 129
abbrev J10 : FuncId := 130
abbrev J2f : FuncId := 131
abbrev J4O : FuncId := 132
abbrev J0H : FuncId := 136
abbrev J5h : FuncId := 137
abbrev J0E : FuncId := 138
abbrev J19 : FuncId := 139
abbrev J51 : FuncId := 170
abbrev J6j : FuncId := 171
abbrev J5y : FuncId := 178
abbrev J5B : FuncId := 179
abbrev J7S : FuncId := 180
abbrev J5K : FuncId := 184
abbrev J68 : FuncId := 185
abbrev J8B : FuncId := 186
abbrev J3D : FuncId := 191
abbrev JX : FuncId := 195
abbrev J0i : FuncId := 196
abbrev J4d : FuncId := 216
abbrev J3s : FuncId := 219
abbrev J7T : FuncId := 220
def JbF : Ji := .seq (.reg false [] [⟨.mv (.t 0), some 12, none⟩,
  ⟨.build (J0 default) [(0, 1, (.t 12))], some 13, none⟩,
  ⟨.box 2 (.t 13), some 14, none⟩,
  ⟨.mv (.t 14), some 4, none⟩])
 (.ret)
def J8r : Ji := .seq (.reg false [] [⟨.mv (.c (.p .np)), some 4, none⟩])
 (.seq (.seq (.reg false [] [⟨.mv (.t 0), some 5, none⟩,
  ⟨.len false (.t 5), some 6, none⟩,
  ⟨.mv (.t 1), some 7, none⟩,
  ⟨.bin .gtr .plain (.t 6) (.t 7), some 8, none⟩])
 (.keep [0, 1, 8] (.cond (.t 8)
 (.reg false [] [⟨.mv (.t 0), some 9, none⟩,
   ⟨.mv (.t 1), some 10, none⟩,
   ⟨.slice (.sl 1) (.t 9) none (some (.t 10)) none, some 11, none⟩,
   ⟨.mv (.t 11), some 0, none⟩])
 (.skip))))
 (.keep [0] JbF))
def J7n : AFn := ⟨2, 15, J8r, [.tmp 4], false⟩
def J1s : Ji := .seq (.reg false [] [⟨.mv (.c (.p (.i .i64 0))), some 4, none⟩])
 (.seq (.seq (.reg true [] [⟨.mv (.t 0), some 6, none⟩,
  ⟨.nilchk (.t 6), some 7, none⟩,
  ⟨.faddr 1 (.t 7), some 8, none⟩,
  ⟨.load false 1 (.t 8), some 9, none⟩,
  ⟨.mv (.t 0), some 10, none⟩,
  ⟨.nilchk (.t 10), some 11, none⟩,
  ⟨.faddr 0 (.t 11), some 12, none⟩,
  ⟨.load false 1 (.t 12), some 13, none⟩,
  ⟨.len false (.t 13), some 14, none⟩,
  ⟨.bin .geq .plain (.t 9) (.t 14), some 15, none⟩,
  ⟨.mv (.t 15), some 16, none⟩,
  ⟨.mv (.t 1), some 17, some (16, false)⟩,
  ⟨.bin .lss .plain (.t 17) (.c (.p (.i .i64 1))), some 18, some (16, false)⟩,
  ⟨.pick (.t 16) (.c (.p (.b true))) (.t 18), some 19, none⟩])
 (.keep [0, 1, 19] (.cond (.t 19)
 (.seq (.reg false [] [⟨.mv (.c (.p (.i .i64 0))), some 4, none⟩])
  (.ret))
 (.skip))))
 (.seq (.reg true [] [⟨.mv (.t 0), some 20, none⟩,
  ⟨.nilchk (.t 20), some 21, none⟩,
  ⟨.faddr 0 (.t 21), some 22, none⟩,
  ⟨.load false 1 (.t 22), some 23, none⟩,
  ⟨.mv (.t 0), some 24, none⟩,
  ⟨.nilchk (.t 24), some 25, none⟩,
  ⟨.faddr 1 (.t 25), some 26, none⟩,
  ⟨.load false 1 (.t 26), some 27, none⟩,
  ⟨.iaddr 1 (.t 23) (.t 27), some 28, none⟩,
  ⟨.load false 1 (.t 28), some 29, none⟩,
  ⟨.conv (.int .i64) (.t 29), some 30, none⟩,
  ⟨.mv (.t 30), some 5, none⟩])
 (.keep [0, 1, 5] (.seq (.reg false [] [⟨.mv (.t 0), some 31, none⟩,
  ⟨.nilchk (.t 31), some 32, none⟩,
  ⟨.faddr 1 (.t 32), some 33, none⟩,
  ⟨.load false 1 (.t 33), some 34, none⟩,
  ⟨.bin .add .plain (.t 34) (.c (.p (.i .i64 1))), some 35, none⟩,
  ⟨.nilchk (.t 31), some 36, none⟩,
  ⟨.faddr 1 (.t 36), some 37, none⟩,
  ⟨.store 1 (.t 37) (.t 35), none, none⟩])
 (.keep [0, 1, 5] (.seq (.seq (.reg false [] [⟨.mv (.t 1), some 38, none⟩,
  ⟨.bin .gtr .plain (.t 38) (.c (.p (.i .i64 256))), some 39, none⟩])
 (.cond (.t 39)
 (.seq (.reg false [] [⟨.mv (.t 5), some 40, none⟩,
   ⟨.bin .mul .plain (.c (.p (.i .i64 256))) (.t 40), some 41, none⟩,
   ⟨.mv (.t 0), some 42, none⟩,
   ⟨.call Jh [(.t 42), (.c (.p (.i .i64 256)))] 0, some 43, none⟩,
   ⟨.bin .add .plain (.t 41) (.t 43), some 44, none⟩,
   ⟨.mv (.t 1), some 45, none⟩,
   ⟨.bin .rem .plain (.t 44) (.t 45), some 46, none⟩,
   ⟨.mv (.t 46), some 4, none⟩])
  (.ret))
 (.skip)))
 (.seq (.reg false [] [⟨.mv (.t 5), some 47, none⟩,
  ⟨.mv (.t 1), some 48, none⟩,
  ⟨.bin .rem .plain (.t 47) (.t 48), some 49, none⟩,
  ⟨.mv (.t 49), some 4, none⟩])
 (.ret))))))))
def J4b : AFn := ⟨2, 50, J1s, [.tmp 4], false⟩
def J1C : Ji := .seq (.seq (.reg false [] [⟨.mv (.t 5), some 10, none⟩,
  ⟨.mv (.t 3), some 11, none⟩,
  ⟨.len false (.t 11), some 12, none⟩,
  ⟨.bin .lss .plain (.t 10) (.t 12), some 13, none⟩])
 (.keep [0, 3, 4, 5, 13] (.cond (.t 13)
 (.skip)
 (.exit 0))))
 (.seq (.block 1 (.reg false [] [⟨.mv (.t 3), some 16, none⟩,
  ⟨.mv (.t 5), some 17, none⟩,
  ⟨.mv (.t 4), some 18, none⟩,
  ⟨.iaddr 1 (.t 16) (.t 17), some 19, none⟩,
  ⟨.store 1 (.t 19) (.t 18), none, none⟩]))
 (.reg false [] [⟨.mv (.t 5), some 14, none⟩,
  ⟨.bin .add .plain (.t 14) (.c (.p (.i .i64 1))), some 15, none⟩,
  ⟨.mv (.t 15), some 5, none⟩]))
def J2c : Ji := .seq (.reg false [] [⟨.mv (.t 3), some 20, none⟩,
  ⟨.mv (.t 0), some 21, none⟩,
  ⟨.call Jh [(.t 21), (.c (.p (.i .i64 256)))] 0, some 22, none⟩,
  ⟨.mv (.t 0), some 23, none⟩,
  ⟨.call Jh [(.t 23), (.c (.p (.i .i64 256)))] 0, some 24, none⟩,
  ⟨.conv (.int .u8) (.t 24), some 25, none⟩,
  ⟨.iaddr 1 (.t 20) (.t 22), some 26, none⟩,
  ⟨.store 1 (.t 26) (.t 25), none, none⟩])
 (.keep [3] (.seq (.reg false [] [⟨.mv (.t 3), some 27, none⟩,
  ⟨.conv .toStr (.t 27), some 28, none⟩,
  ⟨.mv (.t 28), some 2, none⟩])
 (.ret)))
def J4S : Ji := .seq (.reg false [] [⟨.mv (.c (.p (.s []))), some 2, none⟩])
 (.seq (.reg false [] [⟨.mkslice true 1 1 [(.i .u8 0)] (.c (.p (.i .i64 256))) (.c (.p (.i .i64 256))), some 6, none⟩,
  ⟨.mv (.t 6), some 3, none⟩])
 (.seq (.reg false [] [⟨.mv (.t 0), some 7, none⟩,
  ⟨.call Jh [(.t 7), (.c (.p (.i .i64 256)))] 0, some 8, none⟩,
  ⟨.conv (.int .u8) (.t 8), some 9, none⟩,
  ⟨.mv (.t 9), some 4, none⟩])
 (.keep [0, 3, 4] (.seq (.seq (.reg false [] [⟨.mv (.c (.p (.i .i64 0))), some 5, none⟩])
 (.block 0 (.loop [0, 3, 4, 5] J1C)))
 (.keep [0, 3] J2c)))))
def J0W : AFn := ⟨1, 29, J4S, [.tmp 2], false⟩
def J1O : Ji := .seq (.seq (.reg false [] [⟨.mv (.t 5), some 15, none⟩,
  ⟨.mv (.t 3), some 16, none⟩,
  ⟨.bin .lss .plain (.t 15) (.t 16), some 17, none⟩])
 (.keep [0, 3, 4, 5, 17] (.cond (.t 17)
 (.skip)
 (.exit 0))))
 (.seq (.block 1 (.reg false [] [⟨.mv (.t 4), some 20, none⟩,
  ⟨.mv (.t 0), some 21, none⟩,
  ⟨.call Jh [(.t 21), (.c (.p (.i .i64 3)))] 0, some 22, none⟩,
  ⟨.bin .add .plain (.c (.p (.i .i64 97))) (.t 22), some 23, none⟩,
  ⟨.conv (.int .u8) (.t 23), some 24, none⟩,
  ⟨.lits false 1 1 [(.i .u8 0)] [(0, (.t 24))], some 25, none⟩,
  ⟨.app 1 1 [(.i .u8 0)] (.t 20) (.t 25), some 26, none⟩,
  ⟨.mv (.t 26), some 4, none⟩]))
 (.reg false [] [⟨.mv (.t 5), some 18, none⟩,
  ⟨.bin .add .plain (.t 18) (.c (.p (.i .i64 1))), some 19, none⟩,
  ⟨.mv (.t 19), some 5, none⟩]))
def J2y : Ji := .seq (.reg false [] [⟨.mv (.t 4), some 27, none⟩,
  ⟨.conv .toStr (.t 27), some 28, none⟩,
  ⟨.mv (.t 28), some 2, none⟩])
 (.ret)
def J7U : Ji := .seq (.reg false [] [⟨.mv (.t 3), some 13, none⟩,
  ⟨.mkslice true 1 1 [(.i .u8 0)] (.c (.p (.i .i64 0))) (.t 13), some 14, none⟩,
  ⟨.mv (.t 14), some 4, none⟩])
 (.keep [0, 3, 4] (.seq (.seq (.reg false [] [⟨.mv (.c (.p (.i .i64 0))), some 5, none⟩])
 (.block 0 (.loop [0, 3, 4, 5] J1O)))
 (.keep [4] J2y)))
def J2Y : Ji := .seq (.reg false [] [⟨.mv (.c (.p (.s []))), some 2, none⟩])
 (.seq (.reg false [] [⟨.mv (.t 0), some 6, none⟩,
  ⟨.call Jh [(.t 6), (.c (.p (.i .i64 5)))] 0, some 7, none⟩,
  ⟨.mv (.t 7), some 3, none⟩])
 (.keep [0, 3] (.seq (.seq (.reg false [] [⟨.mv (.t 0), some 8, none⟩,
  ⟨.call Jh [(.t 8), (.c (.p (.i .i64 6)))] 0, some 9, none⟩,
  ⟨.bin .eql .plain (.t 9) (.c (.p (.i .i64 0))), some 10, none⟩])
 (.keep [0, 3, 10] (.cond (.t 10)
 (.reg false [] [⟨.mv (.t 0), some 11, none⟩,
   ⟨.call Jh [(.t 11), (.c (.p (.i .i64 14)))] 0, some 12, none⟩,
   ⟨.mv (.t 12), some 3, none⟩])
 (.skip))))
 (.keep [0, 3] J7U))))
def J0N : AFn := ⟨1, 29, J2Y, [.tmp 2], false⟩
def J4r : Ji := .seq (.seq (.reg false [] [⟨.mv (.t 7), some 15, none⟩,
  ⟨.mv (.t 2), some 16, none⟩,
  ⟨.bin .lss .plain (.t 15) (.t 16), some 17, none⟩])
 (.keep [0, 1, 2, 7, 17] (.cond (.t 17)
 (.skip)
 (.exit 0))))
 (.seq (.block 1 (.reg false [] [⟨.mv (.t 0), some 20, none⟩,
  ⟨.mv (.t 1), some 21, none⟩,
  ⟨.conv (.int .u64) (.t 21), some 22, none⟩,
  ⟨.mv (.t 7), some 23, none⟩,
  ⟨.bin .mul .plain (.c (.p (.i .i64 8))) (.t 23), some 24, none⟩,
  ⟨.conv (.int .u64) (.t 24), some 25, none⟩,
  ⟨.bin .shr .plain (.t 22) (.t 25), some 26, none⟩,
  ⟨.conv (.int .u8) (.t 26), some 27, none⟩,
  ⟨.lits false 1 1 [(.i .u8 0)] [(0, (.t 27))], some 28, none⟩,
  ⟨.conv .toStr (.t 28), some 29, none⟩,
  ⟨.bin .add .plain (.t 20) (.t 29), some 30, none⟩,
  ⟨.mv (.t 30), some 0, none⟩]))
 (.reg false [] [⟨.mv (.t 7), some 18, none⟩,
  ⟨.bin .add .plain (.t 18) (.c (.p (.i .i64 1))), some 19, none⟩,
  ⟨.mv (.t 19), some 7, none⟩]))
def J5e : Ji := .seq (.reg false [] [⟨.mv (.t 0), some 31, none⟩,
  ⟨.mv (.t 31), some 6, none⟩])
 (.ret)
def J5x : Ji := .seq (.reg false [] [⟨.mv (.c (.p (.s []))), some 6, none⟩])
 (.seq (.seq (.reg false [] [⟨.mv (.t 2), some 8, none⟩,
  ⟨.bin .lss .plain (.t 8) (.c (.p (.i .i64 1))), some 9, none⟩,
  ⟨.mv (.t 9), some 10, none⟩,
  ⟨.mv (.t 2), some 11, some (10, false)⟩,
  ⟨.bin .gtr .plain (.t 11) (.c (.p (.i .i64 8))), some 12, some (10, false)⟩,
  ⟨.pick (.t 10) (.c (.p (.b true))) (.t 12), some 13, none⟩])
 (.keep [0, 1, 2, 13] (.cond (.t 13)
 (.seq (.reg false [] [⟨.mv (.t 0), some 14, none⟩,
   ⟨.mv (.t 14), some 6, none⟩])
  (.ret))
 (.skip))))
 (.seq (.seq (.reg false [] [⟨.mv (.c (.p (.i .i64 0))), some 7, none⟩])
 (.block 0 (.loop [0, 1, 2, 7] J4r)))
 (.keep [0] J5e)))
def J3h : AFn := ⟨3, 32, J5x, [.tmp 6], false⟩
def J4n : Ji := .seq (.reg false [] [⟨.bin .lss .plain (.t 35) (.t 34), some 36, none⟩])
 (.seq (.cond (.t 36)
 (.skip)
 (.exit 1))
 (.seq (.block 2 (.seq (.reg false [] [⟨.mv (.t 35), some 37, none⟩,
  ⟨.mv (.t 37), some 9, none⟩])
 (.reg false [] [⟨.mv (.t 8), some 38, none⟩,
  ⟨.mv (.t 0), some 39, none⟩,
  ⟨.mv (.t 1), some 40, none⟩,
  ⟨.mv (.t 9), some 41, none⟩,
  ⟨.bin .add .plain (.t 40) (.t 41), some 42, none⟩,
  ⟨.sidx (.t 39) (.t 42), some 43, none⟩,
  ⟨.conv (.int .u64) (.t 43), some 44, none⟩,
  ⟨.mv (.t 9), some 45, none⟩,
  ⟨.bin .mul .plain (.c (.p (.i .i64 8))) (.t 45), some 46, none⟩,
  ⟨.bin .shl .plain (.t 44) (.t 46), some 47, none⟩,
  ⟨.bin .or .plain (.t 38) (.t 47), some 48, none⟩,
  ⟨.mv (.t 48), some 8, none⟩])))
 (.reg false [] [⟨.bin .add .plain (.t 35) (.c (.p (.i .i64 1))), some 49, none⟩,
  ⟨.mv (.t 49), some 35, none⟩])))
def J5k : Ji := .seq (.reg false [] [⟨.mv (.t 8), some 50, none⟩,
  ⟨.conv (.int .i64) (.t 50), some 51, none⟩,
  ⟨.mv (.t 51), some 6, none⟩,
  ⟨.mv (.c (.p (.i .i64 0))), some 7, none⟩])
 (.ret)
def J25 : Ji := .seq (.reg false [] [⟨.mv (.c (.p (.i .i64 0))), some 6, none⟩,
  ⟨.mv (.c (.p (.i .i64 0))), some 7, none⟩])
 (.seq (.block 0 (.seq (.reg false [] [⟨.mv (.t 2), some 11, none⟩,
  ⟨.bin .lss .plain (.t 11) (.c (.p (.i .i64 1))), some 12, none⟩,
  ⟨.mv (.t 12), some 13, none⟩,
  ⟨.mv (.t 2), some 14, some (13, false)⟩,
  ⟨.bin .gtr .plain (.t 14) (.c (.p (.i .i64 8))), some 15, some (13, false)⟩,
  ⟨.pick (.t 13) (.c (.p (.b true))) (.t 15), some 16, none⟩,
  ⟨.mv (.t 16), some 17, none⟩,
  ⟨.mv (.t 1), some 18, some (17, false)⟩,
  ⟨.bin .lss .plain (.t 18) (.c (.p (.i .i64 0))), some 19, some (17, false)⟩,
  ⟨.pick (.t 17) (.c (.p (.b true))) (.t 19), some 20, none⟩,
  ⟨.mv (.t 20), some 10, none⟩])
 (.keep [0, 1, 2, 10] (.cond (.t 10)
 (.seq (.reg false [] [⟨.mv (.c (.p (.i .i64 0))), some 6, none⟩,
   ⟨.mv (.c (.p (.i .i64 1))), some 7, none⟩])
  (.ret))
 (.seq (.reg false [] [⟨.mv (.t 1), some 22, none⟩,
   ⟨.mv (.t 0), some 23, none⟩,
   ⟨.len true (.t 23), some 24, none⟩,
   ⟨.bin .gtr .plain (.t 22) (.t 24), some 25, none⟩,
   ⟨.mv (.t 25), some 26, none⟩,
   ⟨.mv (.t 0), some 27, some (26, false)⟩,
   ⟨.len true (.t 27), some 28, some (26, false)⟩,
   ⟨.mv (.t 1), some 29, some (26, false)⟩,
   ⟨.bin .sub .plain (.t 28) (.t 29), some 30, some (26, false)⟩,
   ⟨.mv (.t 2), some 31, some (26, false)⟩,
   ⟨.bin .lss .plain (.t 30) (.t 31), some 32, some (26, false)⟩,
   ⟨.pick (.t 26) (.c (.p (.b true))) (.t 32), some 33, none⟩,
   ⟨.mv (.t 33), some 21, none⟩])
  (.keep [0, 1, 2, 21] (.cond (.t 21)
  (.seq (.reg false [] [⟨.mv (.c (.p (.i .i64 0))), some 6, none⟩,
    ⟨.mv (.c (.p (.i .i64 5))), some 7, none⟩])
   (.ret))
  (.skip))))))))
 (.seq (.reg false [] [⟨.mv (.c (.p (.i .u64 0))), some 8, none⟩])
 (.seq (.seq (.reg false [] [⟨.mv (.t 2), some 34, none⟩,
  ⟨.mv (.c (.p (.i .i64 0))), some 35, none⟩])
 (.block 1 (.loop [0, 1, 8, 34, 35] J4n)))
 (.keep [8] J5k))))
def J3l : AFn := ⟨3, 52, J25, [.tmp 6, .tmp 7], false⟩
def J2X : Ji := .seq (.reg false [] [⟨.newbox (Jg default), some 2, none⟩])
 (.seq (.seq (.reg false [] [⟨.mv (.t 0), some 4, none⟩,
  ⟨.call Jh [(.t 4), (.c (.p (.i .i64 3)))] 0, some 5, none⟩,
  ⟨.bin .eql .plain (.t 5) (.c (.p (.i .i64 0))), some 6, none⟩])
 (.keep [0, 2, 6] (.cond (.t 6)
 (.seq (.reg false [] [⟨.build (Jg default) [], some 7, none⟩,
   ⟨.store 2 (.t 2) (.t 7), none, none⟩])
  (.ret))
 (.skip))))
 (.seq (.reg false [] [⟨.mv (.t 0), some 8, none⟩,
  ⟨.call J4a [(.t 8)] 0, some 9, none⟩,
  ⟨.mv (.t 9), some 3, none⟩])
 (.keep [2, 3] (.seq (.reg false [] [⟨.mv (.t 3), some 10, none⟩,
  ⟨.mv (.t 3), some 11, none⟩,
  ⟨.len true (.t 11), some 12, none⟩,
  ⟨.mm false (.t 12) (.c (.p (.i .i64 12))), some 13, none⟩,
  ⟨.slice .str (.t 10) none (some (.t 13)) none, some 14, none⟩,
  ⟨.build (Jg default) [(0, 1, (.c (.p (.b true)))), (1, 1, (.t 14))], some 15, none⟩,
  ⟨.store 2 (.t 2) (.t 15), none, none⟩])
 (.ret)))))
def J48 : AFn := ⟨1, 16, J2X, [.cell 2 true 2], false⟩
def J7A : Ji := .seq (.reg false [] [⟨.mv (.c (.p (.s []))), some 2, none⟩])
 (.seq (.reg false [] [⟨.mv (.t 0), some 3, none⟩,
  ⟨.mkslice false 1 1 [(.i .u8 0)] (.t 3) (.t 3), some 4, none⟩,
  ⟨.conv .toStr (.t 4), some 5, none⟩,
  ⟨.mv (.t 5), some 2, none⟩])
 (.ret))
def J5X : AFn := ⟨1, 6, J7A, [.tmp 2], false⟩
def JaR : Ji := .reg false [] [⟨.mv (.t 5), some 20, none⟩,
  ⟨.bin .add .plain (.t 20) (.c (.p (.i .i64 1))), some 21, none⟩,
  ⟨.mv (.t 21), some 5, none⟩]
def J2m : Ji := .seq (.seq (.reg false [] [⟨.mv (.t 5), some 18, none⟩,
  ⟨.bin .lss .plain (.t 18) (.c (.p (.i .i64 8))), some 19, none⟩])
 (.cond (.t 19)
 (.skip)
 (.exit 2)))
 (.seq (.block 3 (.seq (.reg false [] [⟨.mv (.t 3), some 22, none⟩,
  ⟨.bin .and .plain (.t 22) (.c (.p (.i .u32 1))), some 23, none⟩,
  ⟨.bin .eql .plain (.t 23) (.c (.p (.i .u32 1))), some 24, none⟩])
 (.keep [0, 3, 4, 5, 24] (.cond (.t 24)
 (.reg false [] [⟨.mv (.t 3), some 25, none⟩,
   ⟨.bin .shr .plain (.t 25) (.c (.p (.i .u64 1))), some 26, none⟩,
   ⟨.bin .xor .plain (.t 26) (.c (.p (.i .u32 2197175160))), some 27, none⟩,
   ⟨.mv (.t 27), some 3, none⟩])
 (.reg false [] [⟨.mv (.t 3), some 28, none⟩,
   ⟨.bin .shr .plain (.t 28) (.c (.p (.i .u64 1))), some 29, none⟩,
   ⟨.mv (.t 29), some 3, none⟩])))))
 (.keep [0, 3, 4, 5] JaR))
def J4m : Ji := .reg false [] [⟨.mv (.t 4), some 10, none⟩,
  ⟨.bin .add .plain (.t 10) (.c (.p (.i .i64 1))), some 11, none⟩,
  ⟨.mv (.t 11), some 4, none⟩]
def J1k : Ji := .seq (.seq (.reg false [] [⟨.mv (.t 4), some 6, none⟩,
  ⟨.mv (.t 0), some 7, none⟩,
  ⟨.len true (.t 7), some 8, none⟩,
  ⟨.bin .lss .plain (.t 6) (.t 8), some 9, none⟩])
 (.keep [0, 3, 4, 9] (.cond (.t 9)
 (.skip)
 (.exit 0))))
 (.seq (.block 1 (.seq (.reg false [] [⟨.mv (.t 3), some 12, none⟩,
  ⟨.mv (.t 0), some 13, none⟩,
  ⟨.mv (.t 4), some 14, none⟩,
  ⟨.sidx (.t 13) (.t 14), some 15, none⟩,
  ⟨.conv (.int .u32) (.t 15), some 16, none⟩,
  ⟨.bin .xor .plain (.t 12) (.t 16), some 17, none⟩,
  ⟨.mv (.t 17), some 3, none⟩])
 (.keep [0, 3, 4] (.seq (.reg false [] [⟨.mv (.c (.p (.i .i64 0))), some 5, none⟩])
 (.block 2 (.loop [0, 3, 4, 5] J2m))))))
 (.keep [0, 3, 4] J4m))
def J1w : Ji := .seq (.reg false [] [⟨.mv (.t 3), some 30, none⟩,
  ⟨.un .xor (.t 30), some 31, none⟩,
  ⟨.mv (.t 31), some 2, none⟩])
 (.ret)
def J8U : Ji := .seq (.reg false [] [⟨.mv (.c (.p (.i .u32 0))), some 2, none⟩])
 (.seq (.reg false [] [⟨.mv (.c (.p (.i .u32 4294967295))), some 3, none⟩])
 (.seq (.seq (.reg false [] [⟨.mv (.c (.p (.i .i64 0))), some 4, none⟩])
 (.block 0 (.loop [0, 3, 4] J1k)))
 (.keep [3] J1w)))
def J1d : AFn := ⟨1, 32, J8U, [.tmp 2], false⟩
def J0z : Ji := .seq (.reg false [] [⟨.bin .lss .plain (.t 7) (.c (.p (.i .i64 16))), some 8, none⟩])
 (.seq (.cond (.t 8)
 (.skip)
 (.exit 0))
 (.seq (.block 1 (.seq (.reg false [] [⟨.aidx true 16 2 (.t 6) (.t 7), some 9, none⟩,
  ⟨.newbox (Jg default), some 4, none⟩,
  ⟨.store 2 (.t 4) (.t 9), none, none⟩])
 (.keep [1, 4, 6, 7] (.seq (.reg false [] [⟨.faddr 1 (.t 4), some 10, none⟩,
  ⟨.load false 1 (.t 10), some 11, none⟩,
  ⟨.len true (.t 11), some 12, none⟩,
  ⟨.bin .gtr .plain (.t 12) (.c (.p (.i .i64 12))), some 13, none⟩,
  ⟨.mv (.t 13), some 14, none⟩,
  ⟨.faddr 0 (.t 4), some 15, some (14, false)⟩,
  ⟨.load false 1 (.t 15), some 16, some (14, false)⟩,
  ⟨.un .not (.t 16), some 17, some (14, false)⟩,
  ⟨.mv (.t 17), some 18, some (14, false)⟩,
  ⟨.faddr 1 (.t 4), some 19, some (18, true)⟩,
  ⟨.load false 1 (.t 19), some 20, some (18, true)⟩,
  ⟨.bin .neq .plain (.t 20) (.c (.p (.s []))), some 21, some (18, true)⟩,
  ⟨.pick (.t 18) (.t 21) (.c (.p (.b false))), some 22, some (14, false)⟩,
  ⟨.pick (.t 14) (.c (.p (.b true))) (.t 22), some 23, none⟩,
  ⟨.mv (.t 23), some 24, none⟩,
  ⟨.faddr 0 (.t 4), some 25, some (24, false)⟩,
  ⟨.load false 1 (.t 25), some 26, some (24, false)⟩,
  ⟨.mv (.t 26), some 27, some (24, false)⟩,
  ⟨.faddr 1 (.t 1), some 28, some (27, true)⟩,
  ⟨.load false 1 (.t 28), some 29, some (27, true)⟩,
  ⟨.bin .eql .plain (.t 29) (.c (.p (.i .i64 0))), some 30, some (27, true)⟩,
  ⟨.pick (.t 27) (.t 30) (.c (.p (.b false))), some 31, some (24, false)⟩,
  ⟨.pick (.t 24) (.c (.p (.b true))) (.t 31), some 32, none⟩])
 (.keep [1, 6, 7, 32] (.cond (.t 32)
 (.seq (.reg false [] [⟨.mv (.c (.p (.b false))), some 2, none⟩])
  (.ret))
 (.skip)))))))
 (.reg false [] [⟨.bin .add .plain (.t 7) (.c (.p (.i .i64 1))), some 33, none⟩,
  ⟨.mv (.t 33), some 7, none⟩])))
def J4I : Ji := .seq (.reg false [] [⟨.mv (.c (.p (.b true))), some 2, none⟩])
 (.ret)
def J8i : Ji := .seq (.reg false [] [⟨.box 34 (.t 0), some 1, none⟩,
  ⟨.mv (.c (.p (.b false))), some 2, none⟩])
 (.seq (.tidy [2] (.seq (.reg false [] [⟨.faddr 2 (.t 1), some 5, none⟩,
  ⟨.load true 32 (.t 5), some 6, none⟩,
  ⟨.mv (.c (.p (.i .i64 0))), some 7, none⟩])
 (.keep [1, 6, 7] (.block 0 (.loop [1, 6, 7] J0z)))))
 (.keep [] J4I))
def J2C : AFn := ⟨1, 34, J8i, [.tmp 2], false⟩
def JP : Ji := .seq (.reg false [] [⟨.bin .lss .plain (.t 13) (.t 12), some 14, none⟩])
 (.seq (.cond (.t 14)
 (.skip)
 (.exit 0))
 (.seq (.block 1 (.seq (.reg false [] [⟨.mv (.t 13), some 15, none⟩,
  ⟨.mv (.t 15), some 5, none⟩])
 (.seq (.reg true [] [⟨.mv (.t 0), some 16, none⟩,
  ⟨.mv (.t 5), some 17, none⟩,
  ⟨.iaddr 3 (.t 16) (.t 17), some 18, none⟩,
  ⟨.load true 3 (.t 18), some 19, none⟩,
  ⟨.mv (.t 1), some 20, none⟩,
  ⟨.mv (.t 5), some 21, none⟩,
  ⟨.iaddr 3 (.t 20) (.t 21), some 22, none⟩,
  ⟨.load true 3 (.t 22), some 23, none⟩,
  ⟨.bin .neq (.flat [(.i .i64), (.i .i64), .s]) (.t 19) (.t 23), some 24, none⟩])
 (.keep [0, 1, 12, 13, 24] (.cond (.t 24)
 (.seq (.reg false [] [⟨.mv (.c (.p (.b false))), some 4, none⟩])
  (.ret))
 (.skip))))))
 (.reg false [] [⟨.bin .add .plain (.t 13) (.c (.p (.i .i64 1))), some 25, none⟩,
  ⟨.mv (.t 25), some 13, none⟩])))
def J0d : Ji := .seq (.reg false [] [⟨.mv (.c (.p (.b true))), some 4, none⟩])
 (.ret)
def J0F : Ji := .seq (.reg false [] [⟨.mv (.c (.p (.b false))), some 4, none⟩])
 (.seq (.seq (.reg false [] [⟨.mv (.t 0), some 6, none⟩,
  ⟨.len false (.t 6), some 7, none⟩,
  ⟨.mv (.t 1), some 8, none⟩,
  ⟨.len false (.t 8), some 9, none⟩,
  ⟨.bin .neq .plain (.t 7) (.t 9), some 10, none⟩])
 (.keep [0, 1, 10] (.cond (.t 10)
 (.seq (.reg false [] [⟨.mv (.c (.p (.b false))), some 4, none⟩])
  (.ret))
 (.skip))))
 (.seq (.seq (.reg false [] [⟨.mv (.t 0), some 11, none⟩,
  ⟨.len false (.t 11), some 12, none⟩,
  ⟨.mv (.c (.p (.i .i64 0))), some 13, none⟩])
 (.keep [0, 1, 12, 13] (.block 0 (.loop [0, 1, 12, 13] JP))))
 (.keep [] J0d)))
def JK : AFn := ⟨2, 26, J0F, [.tmp 4], false⟩
def J1m : Jad := ⟨1, 8, .reg false [] [⟨.mkarr 3 (.c (.p (.sl 3 []))), some 2, none⟩], [], .reg false [] [⟨.mv (.t 0), some 3, none⟩,
  ⟨.bin .eql .nils (.t 3) (.c (.p (.sl 3 []))), some 4, none⟩], (.t 4),
 .seq (.reg false [] [⟨.mkarr 3 (.c (.p (.sl 3 []))), some 2, none⟩])
 (.ret),
 .skip,
 .seq (.reg false [] [⟨.lits true 3 0 (J6 default) [], some 5, none⟩,
  ⟨.mv (.t 0), some 6, none⟩,
  ⟨.app 3 32 (J6 default) (.t 5) (.t 6), some 7, none⟩,
  ⟨.mv (.t 7), some 2, none⟩])
 (.ret), [.tmp 2], true⟩
def J22 : Ji := .seq (.reg false [] [⟨.box 34 (.t 0), some 1, none⟩,
  ⟨.mv (.c (.p (.b false))), some 2, none⟩])
 (.seq (.reg false [] [⟨.faddr 0 (.t 1), some 3, none⟩,
  ⟨.load false 1 (.t 3), some 4, none⟩,
  ⟨.bin .geq .plain (.t 4) (.c (.p (.i .i64 0))), some 5, none⟩,
  ⟨.mv (.t 5), some 6, none⟩,
  ⟨.faddr 0 (.t 1), some 7, some (6, true)⟩,
  ⟨.load false 1 (.t 7), some 8, some (6, true)⟩,
  ⟨.bin .lss .plain (.t 8) (.c (.p (.i .i64 64))), some 9, some (6, true)⟩,
  ⟨.pick (.t 6) (.t 9) (.c (.p (.b false))), some 10, none⟩,
  ⟨.mv (.t 10), some 11, none⟩,
  ⟨.faddr 1 (.t 1), some 12, some (11, true)⟩,
  ⟨.load false 1 (.t 12), some 13, some (11, true)⟩,
  ⟨.bin .geq .plain (.t 13) (.c (.p (.i .i64 0))), some 14, some (11, true)⟩,
  ⟨.pick (.t 11) (.t 14) (.c (.p (.b false))), some 15, none⟩,
  ⟨.mv (.t 15), some 16, none⟩,
  ⟨.faddr 1 (.t 1), some 17, some (16, true)⟩,
  ⟨.load false 1 (.t 17), some 18, some (16, true)⟩,
  ⟨.bin .leq .plain (.t 18) (.c (.p (.i .i64 1099511627776))), some 19, some (16, true)⟩,
  ⟨.pick (.t 16) (.t 19) (.c (.p (.b false))), some 20, none⟩,
  ⟨.mv (.t 20), some 2, none⟩])
 (.ret))
def J53 : AFn := ⟨1, 21, J22, [.tmp 2], false⟩
def J4p : Ji := .seq (.seq (.reg false [] [⟨.mv (.t 9), some 32, none⟩,
  ⟨.mv (.t 2), some 33, none⟩,
  ⟨.bin .lss .plain (.t 32) (.t 33), some 34, none⟩])
 (.keep [0, 1, 2, 8, 9, 34] (.cond (.t 34)
 (.skip)
 (.exit 0))))
 (.seq (.block 1 (.reg false [] [⟨.mv (.t 8), some 37, none⟩,
  ⟨.mv (.t 0), some 38, none⟩,
  ⟨.mv (.t 1), some 39, none⟩,
  ⟨.mv (.t 9), some 40, none⟩,
  ⟨.bin .add .plain (.t 39) (.t 40), some 41, none⟩,
  ⟨.sidx (.t 38) (.t 41), some 42, none⟩,
  ⟨.conv (.int .u64) (.t 42), some 43, none⟩,
  ⟨.mv (.t 9), some 44, none⟩,
  ⟨.bin .mul .plain (.c (.p (.i .i64 8))) (.t 44), some 45, none⟩,
  ⟨.conv (.int .u64) (.t 45), some 46, none⟩,
  ⟨.bin .shl .plain (.t 43) (.t 46), some 47, none⟩,
  ⟨.bin .or .plain (.t 37) (.t 47), some 48, none⟩,
  ⟨.mv (.t 48), some 8, none⟩]))
 (.reg false [] [⟨.mv (.t 9), some 35, none⟩,
  ⟨.bin .add .plain (.t 35) (.c (.p (.i .i64 1))), some 36, none⟩,
  ⟨.mv (.t 36), some 9, none⟩]))
def J5d : Ji := .seq (.reg false [] [⟨.mv (.t 8), some 49, none⟩,
  ⟨.conv (.int .i64) (.t 49), some 50, none⟩,
  ⟨.mv (.t 50), some 6, none⟩,
  ⟨.mv (.c (.p (.i .i64 0))), some 7, none⟩])
 (.ret)
def J23 : Ji := .seq (.reg false [] [⟨.mv (.c (.p (.i .i64 0))), some 6, none⟩,
  ⟨.mv (.c (.p (.i .i64 0))), some 7, none⟩])
 (.seq (.seq (.reg false [] [⟨.mv (.t 2), some 10, none⟩,
  ⟨.bin .lss .plain (.t 10) (.c (.p (.i .i64 1))), some 11, none⟩,
  ⟨.mv (.t 11), some 12, none⟩,
  ⟨.mv (.t 2), some 13, some (12, false)⟩,
  ⟨.bin .gtr .plain (.t 13) (.c (.p (.i .i64 8))), some 14, some (12, false)⟩,
  ⟨.pick (.t 12) (.c (.p (.b true))) (.t 14), some 15, none⟩,
  ⟨.mv (.t 15), some 16, none⟩,
  ⟨.mv (.t 1), some 17, some (16, false)⟩,
  ⟨.bin .lss .plain (.t 17) (.c (.p (.i .i64 0))), some 18, some (16, false)⟩,
  ⟨.pick (.t 16) (.c (.p (.b true))) (.t 18), some 19, none⟩])
 (.keep [0, 1, 2, 19] (.cond (.t 19)
 (.seq (.reg false [] [⟨.mv (.c (.p (.i .i64 0))), some 6, none⟩,
   ⟨.mv (.c (.p (.i .i64 1))), some 7, none⟩])
  (.ret))
 (.skip))))
 (.seq (.seq (.reg false [] [⟨.mv (.t 1), some 20, none⟩,
  ⟨.mv (.t 0), some 21, none⟩,
  ⟨.len true (.t 21), some 22, none⟩,
  ⟨.bin .gtr .plain (.t 20) (.t 22), some 23, none⟩,
  ⟨.mv (.t 23), some 24, none⟩,
  ⟨.mv (.t 0), some 25, some (24, false)⟩,
  ⟨.len true (.t 25), some 26, some (24, false)⟩,
  ⟨.mv (.t 1), some 27, some (24, false)⟩,
  ⟨.bin .sub .plain (.t 26) (.t 27), some 28, some (24, false)⟩,
  ⟨.mv (.t 2), some 29, some (24, false)⟩,
  ⟨.bin .lss .plain (.t 28) (.t 29), some 30, some (24, false)⟩,
  ⟨.pick (.t 24) (.c (.p (.b true))) (.t 30), some 31, none⟩])
 (.keep [0, 1, 2, 31] (.cond (.t 31)
 (.seq (.reg false [] [⟨.mv (.c (.p (.i .i64 0))), some 6, none⟩,
   ⟨.mv (.c (.p (.i .i64 5))), some 7, none⟩])
  (.ret))
 (.skip))))
 (.seq (.reg false [] [⟨.mv (.c (.p (.i .u64 0))), some 8, none⟩])
 (.seq (.seq (.reg false [] [⟨.mv (.c (.p (.i .i64 0))), some 9, none⟩])
 (.block 0 (.loop [0, 1, 2, 8, 9] J4p)))
 (.keep [8] J5d)))))
def J3k : AFn := ⟨3, 51, J23, [.tmp 6, .tmp 7], false⟩
def J8V : Ji := .seq (.reg false [] [⟨.newbox (J4 default), some 2, none⟩])
 (.seq (.reg false [] [⟨.mv (.t 0), some 3, none⟩,
  ⟨.build (J4 default) [(0, 1, (.t 3))], some 4, none⟩,
  ⟨.store 34 (.t 2) (.t 4), none, none⟩])
 (.ret))
def J7E : AFn := ⟨1, 5, J8V, [.cell 2 true 34], false⟩
def J72 : Ji := .seq (.reg false [] [⟨.mv (.c (.p (.b false))), some 2, none⟩])
 (.seq (.reg false [] [⟨.mv (.t 0), some 3, none⟩,
  ⟨.bin .geq .plain (.t 3) (.c (.p (.i .i64 0))), some 4, none⟩,
  ⟨.mv (.t 4), some 5, none⟩,
  ⟨.mv (.t 0), some 6, some (5, true)⟩,
  ⟨.bin .lss .plain (.t 6) (.c (.p (.i .i64 64))), some 7, some (5, true)⟩,
  ⟨.pick (.t 5) (.t 7) (.c (.p (.b false))), some 8, none⟩,
  ⟨.mv (.t 8), some 2, none⟩])
 (.ret))
def J73 : AFn := ⟨1, 9, J72, [.tmp 2], false⟩
def Ja0 : Ji := .seq (.reg false [] [⟨.newbox (J4 default), some 2, none⟩])
 (.seq (.reg false [] [⟨.mv (.t 0), some 3, none⟩,
  ⟨.build (J4 default) [(0, 1, (.t 3))], some 4, none⟩,
  ⟨.store 34 (.t 2) (.t 4), none, none⟩])
 (.ret))
def J8A : AFn := ⟨1, 5, Ja0, [.cell 2 true 34], false⟩
def J0R : Ji := .seq (.reg false [] [⟨.bin .lss .plain (.t 9) (.c (.p (.i .i64 4))), some 10, none⟩])
 (.seq (.cond (.t 10)
 (.skip)
 (.exit 2))
 (.seq (.block 3 (.seq (.reg false [] [⟨.mv (.t 3), some 11, none⟩,
  ⟨.bin .and .plain (.t 11) (.c (.p (.i .u32 1))), some 12, none⟩,
  ⟨.bin .eql .plain (.t 12) (.c (.p (.i .u32 1))), some 13, none⟩])
 (.keep [0, 1, 2, 3, 4, 9, 13] (.cond (.t 13)
 (.reg false [] [⟨.mv (.t 3), some 14, none⟩,
   ⟨.bin .shr .plain (.t 14) (.c (.p (.i .u64 1))), some 15, none⟩,
   ⟨.bin .xor .plain (.t 15) (.c (.p (.i .u32 2197175160))), some 16, none⟩,
   ⟨.mv (.t 16), some 3, none⟩])
 (.reg false [] [⟨.mv (.t 3), some 17, none⟩,
   ⟨.bin .shr .plain (.t 17) (.c (.p (.i .u64 1))), some 18, none⟩,
   ⟨.mv (.t 18), some 3, none⟩])))))
 (.reg false [] [⟨.bin .add .plain (.t 9) (.c (.p (.i .i64 1))), some 19, none⟩,
  ⟨.mv (.t 19), some 9, none⟩])))
def J2a : Ji := .reg false [] [⟨.mv (.t 2), some 20, none⟩,
  ⟨.mv (.t 3), some 21, none⟩,
  ⟨.aaddr 16 1 (.t 1) (.t 20), some 22, none⟩,
  ⟨.store 1 (.t 22) (.t 21), none, none⟩]
def J1B : Ji := .reg false [] [⟨.bin .add .plain (.t 4) (.c (.p (.i .i64 1))), some 23, none⟩,
  ⟨.mv (.t 23), some 4, none⟩]
def J08 : Ji := .seq (.reg false [] [⟨.bin .lss .plain (.t 4) (.c (.p (.i .i64 16))), some 5, none⟩])
 (.seq (.cond (.t 5)
 (.skip)
 (.exit 0))
 (.seq (.block 1 (.seq (.reg false [] [⟨.mv (.t 4), some 6, none⟩,
  ⟨.mv (.t 6), some 2, none⟩])
 (.seq (.reg false [] [⟨.mv (.t 2), some 7, none⟩,
  ⟨.conv (.int .u32) (.t 7), some 8, none⟩,
  ⟨.mv (.t 8), some 3, none⟩])
 (.keep [0, 1, 2, 3, 4] (.seq (.seq (.reg false [] [⟨.mv (.c (.p (.i .i64 0))), some 9, none⟩])
 (.block 2 (.loop [0, 1, 2, 3, 4, 9] J0R)))
 (.keep [0, 1, 2, 3, 4] J2a))))))
 (.keep [0, 1, 4] J1B)))
def J0c : Ji := .seq (.reg false [] [⟨.load true 16 (.t 1), some 24, none⟩,
  ⟨.store 16 (.t 0) (.t 24), none, none⟩])
 (.ret)
def J4U : Ji := .seq (.reg false [] [⟨.newbox (J06 (r_i .u32) (Vector.replicate 16 (0 : Int))), some 0, none⟩])
 (.seq (.reg false [] [⟨.newbox (J06 (r_i .u32) (Vector.replicate 16 (0 : Int))), some 1, none⟩])
 (.seq (.seq (.reg false [] [⟨.mv (.c (.p (.i .i64 0))), some 4, none⟩])
 (.block 0 (.loop [0, 1, 4] J08)))
 (.keep [0, 1] J0c)))
def J00 : AFn := ⟨0, 25, J4U, [.cell 0 true 16], false⟩
def J5G : Ji := .seq (.reg false [] [⟨.box 3 (.t 0), some 2, none⟩,
  ⟨.mv (.c (.p (.i .i64 0))), some 4, none⟩])
 (.seq (.reg false [] [⟨.faddr 0 (.t 2), some 5, none⟩,
  ⟨.load false 1 (.t 5), some 6, none⟩,
  ⟨.mv (.t 1), some 7, none⟩,
  ⟨.bin .sub .plain (.t 6) (.t 7), some 8, none⟩,
  ⟨.mv (.t 8), some 4, none⟩])
 (.ret))
def J4J : AFn := ⟨2, 9, J5G, [.tmp 4], false⟩
def J2s : Ji := .seq (.reg false [] [⟨.box 2 (.t 0), some 1, none⟩,
  ⟨.mv (.c (.p (.b false))), some 2, none⟩])
 (.seq (.reg false [] [⟨.faddr 1 (.t 1), some 3, none⟩,
  ⟨.load false 1 (.t 3), some 4, none⟩,
  ⟨.len true (.t 4), some 5, none⟩,
  ⟨.bin .leq .plain (.t 5) (.c (.p (.i .i64 12))), some 6, none⟩,
  ⟨.mv (.t 6), some 7, none⟩,
  ⟨.faddr 0 (.t 1), some 8, some (7, true)⟩,
  ⟨.load false 1 (.t 8), some 9, some (7, true)⟩,
  ⟨.mv (.t 9), some 10, some (7, true)⟩,
  ⟨.faddr 1 (.t 1), some 11, some (10, false)⟩,
  ⟨.load false 1 (.t 11), some 12, some (10, false)⟩,
  ⟨.bin .eql .plain (.t 12) (.c (.p (.s []))), some 13, some (10, false)⟩,
  ⟨.pick (.t 10) (.c (.p (.b true))) (.t 13), some 14, some (7, true)⟩,
  ⟨.pick (.t 7) (.t 14) (.c (.p (.b false))), some 15, none⟩,
  ⟨.mv (.t 15), some 2, none⟩])
 (.ret))
def J4f : AFn := ⟨1, 16, J2s, [.tmp 2], false⟩
def J7D : Ji := .seq (.reg false [] [⟨.mv (.c (.p (.i .i64 0))), some 6, none⟩])
 (.seq (.reg false [] [⟨.mv (.t 0), some 10, none⟩,
  ⟨.mv (.t 1), some 11, none⟩,
  ⟨.mv (.t 2), some 12, none⟩,
  ⟨.call J7J [(.t 10), (.t 11), (.t 12)] 0, some 13, none⟩,
  ⟨.mv (.t 13), some 9, none⟩,
  ⟨.extr (.t 9) 0, some 14, none⟩,
  ⟨.extr (.t 9) 1, some 15, none⟩,
  ⟨.mv (.t 14), some 7, none⟩,
  ⟨.mv (.t 15), some 8, none⟩])
 (.keep [7] (.seq (.reg false [] [⟨.mv (.t 7), some 16, none⟩,
  ⟨.mv (.t 16), some 6, none⟩])
 (.ret))))
def J67 : AFn := ⟨3, 17, J7D, [.tmp 6], false⟩
def J1S : Ji := .seq (.reg false [] [⟨.bin .lss .plain (.t 13) (.c (.p (.i .i64 16))), some 14, none⟩])
 (.seq (.cond (.t 14)
 (.skip)
 (.exit 0))
 (.seq (.block 1 (.seq (.reg false [] [⟨.mv (.t 13), some 15, none⟩,
  ⟨.mv (.t 15), some 5, none⟩])
 (.seq (.reg false [] [⟨.mv (.t 5), some 16, none⟩,
  ⟨.bin .mul .plain (.t 16) (.c (.p (.i .i64 13))), some 17, none⟩,
  ⟨.bin .add .plain (.c (.p (.i .i64 12))) (.t 17), some 18, none⟩,
  ⟨.mv (.t 18), some 6, none⟩])
 (.keep [0, 2, 4, 5, 6, 13] (.seq (.reg false [] [⟨.mv (.t 0), some 19, none⟩,
  ⟨.mv (.t 6), some 20, none⟩,
  ⟨.call J3s [(.t 19), (.t 20), (.c (.p (.i .i64 1)))] 0, some 21, none⟩,
  ⟨.mv (.t 21), some 7, none⟩])
 (.keep [0, 2, 4, 5, 6, 7, 13] (.block 2 (.seq (.reg false [] [⟨.mv (.t 7), some 35, none⟩,
  ⟨.bin .eql .plain (.t 35) (.c (.p (.i .i64 255))), some 36, none⟩,
  ⟨.mv (.t 36), some 34, none⟩])
 (.keep [0, 2, 4, 5, 6, 7, 13, 34] (.cond (.t 34)
 (.skip)
 (.seq (.reg false [] [⟨.mv (.t 7), some 38, none⟩,
   ⟨.bin .gtr .plain (.t 38) (.c (.p (.i .i64 12))), some 39, none⟩,
   ⟨.mv (.t 39), some 37, none⟩])
  (.keep [0, 2, 4, 5, 6, 7, 13, 37] (.cond (.t 37)
  (.seq (.reg false [] [⟨.build (J4 default) [], some 40, none⟩,
    ⟨.store 34 (.t 2) (.t 40), none, none⟩,
    ⟨.mv (.c (.p (.b false))), some 3, none⟩])
   (.ret))
  (.reg false [] [⟨.mv (.t 5), some 22, none⟩,
    ⟨.mv (.t 0), some 23, none⟩,
    ⟨.mv (.t 6), some 24, none⟩,
    ⟨.bin .add .plain (.t 24) (.c (.p (.i .i64 1))), some 25, none⟩,
    ⟨.mv (.t 6), some 26, none⟩,
    ⟨.bin .add .plain (.t 26) (.c (.p (.i .i64 1))), some 27, none⟩,
    ⟨.mv (.t 7), some 28, none⟩,
    ⟨.bin .add .plain (.t 27) (.t 28), some 29, none⟩,
    ⟨.slice .str (.t 23) (some (.t 25)) (some (.t 29)) none, some 30, none⟩,
    ⟨.build (Jg default) [(0, 1, (.c (.p (.b true)))), (1, 1, (.t 30))], some 31, none⟩,
    ⟨.faddr 2 (.t 4), some 32, none⟩,
    ⟨.aaddr 16 2 (.t 32) (.t 22), some 33, none⟩,
    ⟨.store 2 (.t 33) (.t 31), none, none⟩]))))))))))))))
 (.reg false [] [⟨.bin .add .plain (.t 13) (.c (.p (.i .i64 1))), some 41, none⟩,
  ⟨.mv (.t 41), some 13, none⟩])))
def J5i : Ji := .seq (.reg false [] [⟨.load true 34 (.t 4), some 42, none⟩,
  ⟨.store 34 (.t 2) (.t 42), none, none⟩,
  ⟨.mv (.c (.p (.b true))), some 3, none⟩])
 (.ret)
def J93 : Ji := .seq (.reg false [] [⟨.newbox (J4 default), some 2, none⟩,
  ⟨.mv (.c (.p (.b false))), some 3, none⟩])
 (.seq (.reg false [] [⟨.mv (.t 0), some 8, none⟩,
  ⟨.call J3s [(.t 8), (.c (.p (.i .i64 8))), (.c (.p (.i .i64 4)))] 0, some 9, none⟩,
  ⟨.mv (.t 0), some 10, none⟩,
  ⟨.call J3s [(.t 10), (.c (.p (.i .i64 0))), (.c (.p (.i .i64 8)))] 0, some 11, none⟩,
  ⟨.build (J4 default) [(0, 1, (.t 9)), (1, 1, (.t 11))], some 12, none⟩,
  ⟨.newbox (J4 default), some 4, none⟩,
  ⟨.store 34 (.t 4) (.t 12), none, none⟩])
 (.keep [0, 2, 4] (.seq (.seq (.reg false [] [⟨.mv (.c (.p (.i .i64 0))), some 13, none⟩])
 (.block 0 (.loop [0, 2, 4, 13] J1S)))
 (.keep [2, 4] J5i))))
def J3j : AFn := ⟨1, 43, J93, [.cell 2 true 34, .tmp 3], false⟩
def J1Q : Ji := .seq (.seq (.reg false [] [⟨.mv (.t 6), some 23, none⟩,
  ⟨.bin .gtr .plain (.t 23) (.c (.p (.i .i64 0))), some 24, none⟩])
 (.cond (.t 24)
 (.skip)
 (.exit 0)))
 (.seq (.block 1 (.reg false [] [⟨.mv (.t 0), some 27, none⟩,
  ⟨.call Jh [(.t 27), (.c (.p (.i .i64 16)))] 0, some 28, none⟩,
  ⟨.mv (.t 0), some 29, none⟩,
  ⟨.call J4c [(.t 29)] 0, some 30, none⟩,
  ⟨.faddr 2 (.t 5), some 31, none⟩,
  ⟨.aaddr 16 2 (.t 31) (.t 28), some 32, none⟩,
  ⟨.store 2 (.t 32) (.t 30), none, none⟩]))
 (.reg false [] [⟨.mv (.t 6), some 25, none⟩,
  ⟨.bin .sub .plain (.t 25) (.c (.p (.i .i64 1))), some 26, none⟩,
  ⟨.mv (.t 26), some 6, none⟩]))
def J2x : Ji := .seq (.reg false [] [⟨.load true 34 (.t 5), some 33, none⟩,
  ⟨.store 34 (.t 4) (.t 33), none, none⟩])
 (.ret)
def J5N : Ji := .seq (.seq (.reg false [] [⟨.faddr 1 (.t 5), some 18, none⟩,
  ⟨.load false 1 (.t 18), some 19, none⟩,
  ⟨.bin .gtr .plain (.t 19) (.c (.p (.i .i64 0))), some 20, none⟩])
 (.keep [0, 4, 5, 20] (.cond (.t 20)
 (.seq (.reg false [] [⟨.mv (.t 0), some 21, none⟩,
   ⟨.call Jh [(.t 21), (.c (.p (.i .i64 6)))] 0, some 22, none⟩,
   ⟨.mv (.t 22), some 6, none⟩])
  (.keep [0, 4, 5, 6] (.block 0 (.loop [0, 4, 5, 6] J1Q))))
 (.skip))))
 (.keep [4, 5] J2x)
def J30 : Ji := .seq (.reg false [] [⟨.newbox (J4 default), some 4, none⟩])
 (.seq (.reg false [] [⟨.mv (.t 1), some 7, none⟩,
  ⟨.mv (.t 0), some 8, none⟩,
  ⟨.call Jh [(.t 8), (.c (.p (.i .i64 50)))] 0, some 9, none⟩,
  ⟨.build (J4 default) [(0, 1, (.t 7)), (1, 1, (.t 9))], some 10, none⟩,
  ⟨.newbox (J4 default), some 5, none⟩,
  ⟨.store 34 (.t 5) (.t 10), none, none⟩])
 (.keep [0, 4, 5] (.seq (.seq (.reg false [] [⟨.mv (.t 0), some 11, none⟩,
  ⟨.call Jh [(.t 11), (.c (.p (.i .i64 10)))] 0, some 12, none⟩,
  ⟨.bin .eql .plain (.t 12) (.c (.p (.i .i64 9))), some 13, none⟩])
 (.keep [0, 4, 5, 13] (.cond (.t 13)
 (.reg false [] [⟨.mv (.t 0), some 14, none⟩,
   ⟨.call Jh [(.t 14), (.c (.p (.i .i64 2)))] 0, some 15, none⟩,
   ⟨.bin .sub .plain (.c (.p (.i .i64 1099511627776))) (.t 15), some 16, none⟩,
   ⟨.faddr 1 (.t 5), some 17, none⟩,
   ⟨.store 1 (.t 17) (.t 16), none, none⟩])
 (.skip))))
 (.keep [0, 4, 5] J5N))))
def J0O : AFn := ⟨2, 34, J30, [.cell 4 true 34], false⟩
def J7w : Ji := .seq (.reg false [] [⟨.mv (.c (.p (.s []))), some 0, none⟩])
 (.seq (.reg false [] [⟨.call J3y [(.c (.p (.i .i64 256)))] 0, some 1, none⟩,
  ⟨.mv (.t 1), some 0, none⟩])
 (.ret))
def J6i : AFn := ⟨0, 2, J7w, [.tmp 0], false⟩
def J8m : Ji := .seq (.reg false [] [⟨.mv (.c (.p (.s []))), some 0, none⟩])
 (.seq (.reg false [] [⟨.call J2f [(.c (.p (.s [0]))), (.c (.p (.i .i64 256)))] 0, some 1, none⟩,
  ⟨.mv (.t 1), some 0, none⟩])
 (.ret))
def J6W : AFn := ⟨0, 2, J8m, [.tmp 0], false⟩
def J4R : Ji := .seq (.reg false [] [⟨.box 3 (.t 0), some 2, none⟩,
  ⟨.box 3 (.t 1), some 3, none⟩,
  ⟨.mv (.c (.p (.b false))), some 4, none⟩])
 (.keep [2, 3] (.seq (.reg false [] [⟨.faddr 0 (.t 2), some 5, none⟩,
  ⟨.load false 1 (.t 5), some 6, none⟩,
  ⟨.faddr 0 (.t 3), some 7, none⟩,
  ⟨.load false 1 (.t 7), some 8, none⟩,
  ⟨.bin .eql .plain (.t 6) (.t 8), some 9, none⟩,
  ⟨.mv (.t 9), some 10, none⟩,
  ⟨.faddr 1 (.t 2), some 11, some (10, true)⟩,
  ⟨.load false 1 (.t 11), some 12, some (10, true)⟩,
  ⟨.faddr 1 (.t 3), some 13, some (10, true)⟩,
  ⟨.load false 1 (.t 13), some 14, some (10, true)⟩,
  ⟨.bin .eql .plain (.t 12) (.t 14), some 15, some (10, true)⟩,
  ⟨.pick (.t 10) (.t 15) (.c (.p (.b false))), some 16, none⟩,
  ⟨.mv (.t 16), some 17, none⟩,
  ⟨.faddr 2 (.t 2), some 18, some (17, true)⟩,
  ⟨.load false 1 (.t 18), some 19, some (17, true)⟩,
  ⟨.faddr 2 (.t 3), some 20, some (17, true)⟩,
  ⟨.load false 1 (.t 20), some 21, some (17, true)⟩,
  ⟨.call J0H [(.t 19), (.t 21)] 0, some 22, some (17, true)⟩,
  ⟨.pick (.t 17) (.t 22) (.c (.p (.b false))), some 23, none⟩,
  ⟨.mv (.t 23), some 4, none⟩])
 (.ret)))
def J6Z : AFn := ⟨2, 24, J4R, [.tmp 4], false⟩
def J3t : Ji := .seq (.reg false [] [⟨.box 34 (.t 0), some 1, none⟩,
  ⟨.mv (.c (.p (.b false))), some 2, none⟩])
 (.seq (.reg false [] [⟨.faddr 0 (.t 1), some 3, none⟩,
  ⟨.load false 1 (.t 3), some 4, none⟩,
  ⟨.call J5K [(.t 4)] 0, some 5, none⟩,
  ⟨.mv (.t 5), some 6, none⟩,
  ⟨.faddr 1 (.t 1), some 7, some (6, true)⟩,
  ⟨.load false 1 (.t 7), some 8, some (6, true)⟩,
  ⟨.bin .geq .plain (.t 8) (.c (.p (.i .i64 0))), some 9, some (6, true)⟩,
  ⟨.pick (.t 6) (.t 9) (.c (.p (.b false))), some 10, none⟩,
  ⟨.mv (.t 10), some 11, none⟩,
  ⟨.faddr 1 (.t 1), some 12, some (11, true)⟩,
  ⟨.load false 1 (.t 12), some 13, some (11, true)⟩,
  ⟨.bin .leq .plain (.t 13) (.c (.p (.i .i64 1099511627776))), some 14, some (11, true)⟩,
  ⟨.pick (.t 11) (.t 14) (.c (.p (.b false))), some 15, none⟩,
  ⟨.mv (.t 15), some 2, none⟩])
 (.ret))
def J6f : AFn := ⟨1, 16, J3t, [.tmp 2], false⟩
def J75 : Ji := .reg true [(6, 8), (6, 11), (8, 14)] [⟨.mv (.t 0), some 10, none⟩,
  ⟨.mv (.t 0), some 11, none⟩,
  ⟨.nilchk (.t 11), some 12, none⟩,
  ⟨.faddr 0 (.t 12), some 13, none⟩,
  ⟨.load false 1 (.t 13), some 14, none⟩,
  ⟨.mv (.t 4), some 15, none⟩,
  ⟨.call J1q [(.t 14), (.t 15), (.c (.p (.i .i64 1)))] 0, some 16, none⟩,
  ⟨.faddr 1 (.t 3), some 17, none⟩,
  ⟨.load false 1 (.t 17), some 18, none⟩,
  ⟨.bin .add .plain (.t 16) (.t 18), some 19, none⟩,
  ⟨.faddr 1 (.t 3), some 20, none⟩,
  ⟨.load false 1 (.t 20), some 21, none⟩,
  ⟨.len true (.t 21), some 22, none⟩,
  ⟨.bin .sub .plain (.c (.p (.i .i64 12))) (.t 22), some 23, none⟩,
  ⟨.call J2f [(.c (.p (.s [0]))), (.t 23)] 0, some 24, none⟩,
  ⟨.bin .add .plain (.t 19) (.t 24), some 25, none⟩,
  ⟨.nilchk (.t 10), some 26, none⟩,
  ⟨.faddr 0 (.t 26), some 27, none⟩,
  ⟨.store 1 (.t 27) (.t 25), none, none⟩]
def J3b : Ji := .seq (.reg false [] [⟨.box 2 (.t 1), some 3, none⟩])
 (.seq (.reg false [] [⟨.mv (.c (.p (.i .i64 255))), some 4, none⟩])
 (.seq (.seq (.reg false [] [⟨.faddr 0 (.t 3), some 5, none⟩,
  ⟨.load false 1 (.t 5), some 6, none⟩])
 (.cond (.t 6)
 (.reg false [] [⟨.faddr 1 (.t 3), some 7, none⟩,
   ⟨.load false 1 (.t 7), some 8, none⟩,
   ⟨.len true (.t 8), some 9, none⟩,
   ⟨.mv (.t 9), some 4, none⟩])
 (.skip)))
 (.keep [0, 3, 4] J75)))
def J2t : AFn := ⟨2, 28, J3b, [], false⟩
def J4s : Ji := .seq (.reg false [] [⟨.bin .lss .plain (.t 9) (.t 8), some 10, none⟩])
 (.seq (.cond (.t 10)
 (.skip)
 (.exit 0))
 (.seq (.block 1 (.seq (.reg false [] [⟨.mv (.t 9), some 11, none⟩,
  ⟨.mv (.t 11), some 5, none⟩])
 (.seq (.reg false [] [⟨.mv (.t 4), some 12, none⟩,
  ⟨.mv (.t 0), some 13, none⟩,
  ⟨.mv (.t 5), some 14, none⟩,
  ⟨.sidx (.t 13) (.t 14), some 15, none⟩,
  ⟨.conv (.int .u32) (.t 15), some 16, none⟩,
  ⟨.bin .xor .plain (.t 12) (.t 16), some 17, none⟩,
  ⟨.mv (.t 17), some 4, none⟩])
 (.keep [0, 3, 4, 8, 9] (.seq (.reg false [] [⟨.mv (.t 4), some 18, none⟩,
  ⟨.bin .shr .plain (.t 18) (.c (.p (.i .u64 4))), some 19, none⟩,
  ⟨.mv (.t 4), some 20, none⟩,
  ⟨.bin .and .plain (.t 20) (.c (.p (.i .u32 15))), some 21, none⟩,
  ⟨.aaddr 16 1 (.t 3) (.t 21), some 22, none⟩,
  ⟨.load false 1 (.t 22), some 23, none⟩,
  ⟨.bin .xor .plain (.t 19) (.t 23), some 24, none⟩,
  ⟨.mv (.t 24), some 4, none⟩])
 (.keep [0, 3, 4, 8, 9] (.reg false [] [⟨.mv (.t 4), some 25, none⟩,
  ⟨.bin .shr .plain (.t 25) (.c (.p (.i .u64 4))), some 26, none⟩,
  ⟨.mv (.t 4), some 27, none⟩,
  ⟨.bin .and .plain (.t 27) (.c (.p (.i .u32 15))), some 28, none⟩,
  ⟨.aaddr 16 1 (.t 3) (.t 28), some 29, none⟩,
  ⟨.load false 1 (.t 29), some 30, none⟩,
  ⟨.bin .xor .plain (.t 26) (.t 30), some 31, none⟩,
  ⟨.mv (.t 31), some 4, none⟩])))))))
 (.reg false [] [⟨.bin .add .plain (.t 9) (.c (.p (.i .i64 1))), some 32, none⟩,
  ⟨.mv (.t 32), some 9, none⟩])))
def J5c : Ji := .seq (.reg false [] [⟨.mv (.t 4), some 33, none⟩,
  ⟨.un .xor (.t 33), some 34, none⟩,
  ⟨.mv (.t 34), some 2, none⟩])
 (.ret)
def J8W : Ji := .seq (.reg false [] [⟨.mv (.c (.p (.i .u32 0))), some 2, none⟩])
 (.seq (.reg false [] [⟨.call J3D [] 0, some 6, none⟩,
  ⟨.newbox (J06 (r_i .u32) (Vector.replicate 16 (0 : Int))), some 3, none⟩,
  ⟨.store 16 (.t 3) (.t 6), none, none⟩])
 (.keep [0, 3] (.seq (.reg false [] [⟨.mv (.c (.p (.i .u32 4294967295))), some 4, none⟩])
 (.seq (.seq (.reg false [] [⟨.mv (.t 0), some 7, none⟩,
  ⟨.len true (.t 7), some 8, none⟩,
  ⟨.mv (.c (.p (.i .i64 0))), some 9, none⟩])
 (.keep [0, 3, 4, 8, 9] (.block 0 (.loop [0, 3, 4, 8, 9] J4s))))
 (.keep [4] J5c)))))
def J3i : AFn := ⟨1, 35, J8W, [.tmp 2], false⟩
def Js : Ji := .seq (.seq (.reg false [] [⟨.mv (.t 9), some 15, none⟩,
  ⟨.mv (.t 10), some 16, none⟩,
  ⟨.bin .lss .plain (.t 15) (.t 16), some 17, none⟩])
 (.keep [0, 1, 2, 8, 9, 10, 17] (.cond (.t 17)
 (.skip)
 (.exit 0))))
 (.block 1 (.seq (.reg false [] [⟨.mv (.t 9), some 18, none⟩,
  ⟨.mv (.t 10), some 19, none⟩,
  ⟨.bin .add .plain (.t 18) (.t 19), some 20, none⟩,
  ⟨.conv (.int .u64) (.t 20), some 21, none⟩,
  ⟨.bin .shr .plain (.t 21) (.c (.p (.i .u64 1))), some 22, none⟩,
  ⟨.conv (.int .i64) (.t 22), some 23, none⟩,
  ⟨.mv (.t 23), some 11, none⟩])
 (.keep [0, 1, 2, 8, 9, 10, 11] (.seq (.reg false [] [⟨.mv (.t 2), some 24, none⟩,
  ⟨.mv (.t 0), some 25, none⟩,
  ⟨.mv (.t 11), some 26, none⟩,
  ⟨.iaddr 3 (.t 25) (.t 26), some 27, none⟩,
  ⟨.load true 3 (.t 27), some 28, none⟩,
  ⟨.mv (.t 1), some 29, none⟩,
  ⟨.callv (.t 24) [(.t 28), (.t 29)] 0, some 30, none⟩,
  ⟨.bin .lss .plain (.t 30) (.c (.p (.i .i64 0))), some 31, none⟩])
 (.keep [0, 1, 2, 8, 9, 10, 11, 31] (.cond (.t 31)
 (.reg false [] [⟨.mv (.t 11), some 32, none⟩,
   ⟨.bin .add .plain (.t 32) (.c (.p (.i .i64 1))), some 33, none⟩,
   ⟨.mv (.t 33), some 9, none⟩])
 (.reg false [] [⟨.mv (.t 11), some 34, none⟩,
   ⟨.mv (.t 34), some 10, none⟩])))))))
def JD : Ji := .seq (.reg false [] [⟨.mv (.t 9), some 35, none⟩,
  ⟨.mv (.t 9), some 36, none⟩,
  ⟨.mv (.t 8), some 37, none⟩,
  ⟨.bin .lss .plain (.t 36) (.t 37), some 38, none⟩,
  ⟨.mv (.t 38), some 39, none⟩,
  ⟨.mv (.t 2), some 40, some (39, true)⟩,
  ⟨.mv (.t 0), some 41, some (39, true)⟩,
  ⟨.mv (.t 9), some 42, some (39, true)⟩,
  ⟨.iaddr 3 (.t 41) (.t 42), some 43, some (39, true)⟩,
  ⟨.load true 3 (.t 43), some 44, some (39, true)⟩,
  ⟨.mv (.t 1), some 45, some (39, true)⟩,
  ⟨.callv (.t 40) [(.t 44), (.t 45)] 0, some 46, some (39, true)⟩,
  ⟨.bin .eql .plain (.t 46) (.c (.p (.i .i64 0))), some 47, some (39, true)⟩,
  ⟨.pick (.t 39) (.t 47) (.c (.p (.b false))), some 48, none⟩,
  ⟨.mv (.t 35), some 6, none⟩,
  ⟨.mv (.t 48), some 7, none⟩])
 (.ret)
def J0b : Ji := .seq (.reg false [] [⟨.mv (.c (.p (.i .i64 0))), some 6, none⟩,
  ⟨.mv (.c (.p (.b false))), some 7, none⟩])
 (.seq (.reg false [] [⟨.mv (.t 0), some 12, none⟩,
  ⟨.len false (.t 12), some 13, none⟩,
  ⟨.mv (.t 13), some 8, none⟩])
 (.keep [0, 1, 2, 8] (.seq (.reg false [] [⟨.mv (.t 8), some 14, none⟩,
  ⟨.mv (.c (.p (.i .i64 0))), some 9, none⟩,
  ⟨.mv (.t 14), some 10, none⟩])
 (.keep [0, 1, 2, 8, 9, 10] (.seq (.block 0 (.loop [0, 1, 2, 8, 9, 10] Js))
 (.keep [0, 1, 2, 8, 9] JD))))))
def Jp : AFn := ⟨3, 49, J0b, [.tmp 6, .tmp 7], false⟩
def J7v : Ji := .seq (.reg false [] [⟨.box 3 (.t 0), some 2, none⟩,
  ⟨.mv (.c (.p (.i .i64 0))), some 4, none⟩,
  ⟨.mv (.c (.p (.b false))), some 5, none⟩])
 (.keep [1, 2] (.seq (.reg false [] [⟨.faddr 2 (.t 2), some 6, none⟩,
  ⟨.load false 1 (.t 6), some 7, none⟩,
  ⟨.mv (.t 1), some 8, none⟩,
  ⟨.call JX [(.t 7), (.t 8), (.c (.fn J0i [] []))] 0, some 9, none⟩,
  ⟨.extr (.t 9) 0, some 10, none⟩,
  ⟨.extr (.t 9) 1, some 11, none⟩,
  ⟨.mv (.t 10), some 4, none⟩,
  ⟨.mv (.t 11), some 5, none⟩])
 (.ret)))
def J6k : AFn := ⟨2, 12, J7v, [.tmp 4, .tmp 5], false⟩
def J0D : Ji := .seq (.seq (.reg false [] [⟨.mv (.t 3), some 4, none⟩,
  ⟨.bin .lss .plain (.t 4) (.c (.p (.i .i64 16))), some 5, none⟩])
 (.cond (.t 5)
 (.skip)
 (.exit 0)))
 (.seq (.block 1 (.seq (.reg false [] [⟨.mv (.t 3), some 8, none⟩,
  ⟨.faddr 2 (.t 1), some 9, none⟩,
  ⟨.aaddr 16 2 (.t 9) (.t 8), some 10, none⟩,
  ⟨.load true 2 (.t 10), some 11, none⟩,
  ⟨.call J4d [(.t 11)] 0, some 12, none⟩,
  ⟨.un .not (.t 12), some 13, none⟩,
  ⟨.mv (.t 13), some 14, none⟩,
  ⟨.faddr 1 (.t 1), some 15, some (14, false)⟩,
  ⟨.load false 1 (.t 15), some 16, some (14, false)⟩,
  ⟨.bin .eql .plain (.t 16) (.c (.p (.i .i64 0))), some 17, some (14, false)⟩,
  ⟨.mv (.t 17), some 18, some (14, false)⟩,
  ⟨.mv (.t 3), some 19, some (18, true)⟩,
  ⟨.faddr 2 (.t 1), some 20, some (18, true)⟩,
  ⟨.aaddr 16 2 (.t 20) (.t 19), some 21, some (18, true)⟩,
  ⟨.faddr 0 (.t 21), some 22, some (18, true)⟩,
  ⟨.load false 1 (.t 22), some 23, some (18, true)⟩,
  ⟨.pick (.t 18) (.t 23) (.c (.p (.b false))), some 24, some (14, false)⟩,
  ⟨.pick (.t 14) (.c (.p (.b true))) (.t 24), some 25, none⟩])
 (.keep [1, 3, 25] (.cond (.t 25)
 (.seq (.reg false [] [⟨.mv (.c (.p (.b false))), some 2, none⟩])
  (.ret))
 (.skip)))))
 (.reg false [] [⟨.mv (.t 3), some 6, none⟩,
  ⟨.bin .add .plain (.t 6) (.c (.p (.i .i64 1))), some 7, none⟩,
  ⟨.mv (.t 7), some 3, none⟩]))
def J3R : Ji := .seq (.reg false [] [⟨.mv (.c (.p (.b true))), some 2, none⟩])
 (.ret)
def J7x : Ji := .seq (.reg false [] [⟨.box 34 (.t 0), some 1, none⟩,
  ⟨.mv (.c (.p (.b false))), some 2, none⟩])
 (.seq (.seq (.reg false [] [⟨.mv (.c (.p (.i .i64 0))), some 3, none⟩])
 (.block 0 (.loop [1, 3] J0D)))
 (.keep [] J3R))
def J2j : AFn := ⟨1, 26, J7x, [.tmp 2], false⟩
def J36 : Ji := .seq (.reg false [] [⟨.bin .lss .plain (.t 29) (.c (.p (.i .i64 16))), some 30, none⟩])
 (.seq (.cond (.t 30)
 (.skip)
 (.exit 1))
 (.seq (.block 2 (.seq (.reg false [] [⟨.aidx true 16 2 (.t 28) (.t 29), some 31, none⟩,
  ⟨.newbox (Jg default), some 7, none⟩,
  ⟨.store 2 (.t 7) (.t 31), none, none⟩])
 (.keep [1, 4, 5, 7, 28, 29] (.reg false [] [⟨.mv (.t 5), some 32, none⟩,
  ⟨.load true 2 (.t 7), some 33, none⟩,
  ⟨.callv (.t 32) [(.t 33)] 0, some 34, none⟩]))))
 (.reg false [] [⟨.bin .add .plain (.t 29) (.c (.p (.i .i64 1))), some 35, none⟩,
  ⟨.mv (.t 35), some 29, none⟩])))
def J3W : Ji := .seq (.reg true [(3, 10)] [⟨.mv (.t 4), some 36, none⟩,
  ⟨.nilchk (.t 36), some 37, none⟩,
  ⟨.faddr 0 (.t 37), some 38, none⟩,
  ⟨.load false 1 (.t 38), some 39, none⟩,
  ⟨.mv (.t 4), some 40, none⟩,
  ⟨.nilchk (.t 40), some 41, none⟩,
  ⟨.faddr 0 (.t 41), some 42, none⟩,
  ⟨.load false 1 (.t 42), some 43, none⟩,
  ⟨.len true (.t 43), some 44, none⟩,
  ⟨.bin .sub .plain (.c (.p (.i .i64 244))) (.t 44), some 45, none⟩,
  ⟨.call J2f [(.c (.p (.s [0]))), (.t 45)] 0, some 46, none⟩,
  ⟨.bin .add .plain (.t 39) (.t 46), some 47, none⟩,
  ⟨.mv (.t 47), some 8, none⟩])
 (.keep [1, 8] (.seq (.reg true [(2, 6), (4, 6)] [⟨.mv (.t 8), some 48, none⟩,
  ⟨.mv (.t 8), some 49, none⟩,
  ⟨.call J4O [(.t 49)] 0, some 50, none⟩,
  ⟨.conv (.int .i64) (.t 50), some 51, none⟩,
  ⟨.call J1q [(.t 48), (.t 51), (.c (.p (.i .i64 4)))] 0, some 52, none⟩,
  ⟨.faddr 1 (.t 1), some 53, none⟩,
  ⟨.load false 1 (.t 53), some 54, none⟩,
  ⟨.call J1q [(.t 52), (.t 54), (.c (.p (.i .i64 8)))] 0, some 55, none⟩,
  ⟨.mv (.t 55), some 2, none⟩,
  ⟨.mv (.c (.p (.i .i64 0))), some 3, none⟩])
 (.ret)))
def J3r : Ji := .seq (.reg false [] [⟨.box 34 (.t 0), some 1, none⟩,
  ⟨.mv (.c (.p (.s []))), some 2, none⟩,
  ⟨.mv (.c (.p (.i .i64 0))), some 3, none⟩])
 (.keep [1] (.seq (.block 0 (.seq (.reg false [] [⟨.load true 34 (.t 1), some 10, none⟩,
  ⟨.call J6g [(.t 10)] 0, some 11, none⟩,
  ⟨.un .not (.t 11), some 12, none⟩,
  ⟨.mv (.t 12), some 9, none⟩])
 (.keep [1, 9] (.cond (.t 9)
 (.seq (.reg false [] [⟨.mv (.c (.p (.s []))), some 2, none⟩,
   ⟨.mv (.c (.p (.i .i64 1))), some 3, none⟩])
  (.ret))
 (.seq (.reg false [] [⟨.load true 34 (.t 1), some 14, none⟩,
   ⟨.call J74 [(.t 14)] 0, some 15, none⟩,
   ⟨.un .not (.t 15), some 16, none⟩,
   ⟨.mv (.t 16), some 13, none⟩])
  (.keep [1, 13] (.cond (.t 13)
  (.seq (.reg false [] [⟨.mv (.c (.p (.s []))), some 2, none⟩,
    ⟨.mv (.c (.p (.i .i64 22))), some 3, none⟩])
   (.ret))
  (.skip))))))))
 (.seq (.reg true [(2, 4)] [⟨.faddr 1 (.t 1), some 17, none⟩,
  ⟨.load false 1 (.t 17), some 18, none⟩,
  ⟨.call J1q [(.c (.p (.s []))), (.t 18), (.c (.p (.i .i64 8)))] 0, some 19, none⟩,
  ⟨.faddr 0 (.t 1), some 20, none⟩,
  ⟨.load false 1 (.t 20), some 21, none⟩,
  ⟨.call J1q [(.t 19), (.t 21), (.c (.p (.i .i64 4)))] 0, some 22, none⟩,
  ⟨.build (J0J default) [(0, 1, (.t 22))], some 23, none⟩,
  ⟨.box 1 (.t 23), some 24, none⟩,
  ⟨.mv (.t 24), some 4, none⟩])
 (.keep [1, 4] (.seq (.reg false [] [⟨.mv (.t 4), some 25, none⟩,
  ⟨.mkfn J10 [(.t 25)] [], some 26, none⟩,
  ⟨.mv (.t 26), some 5, none⟩])
 (.keep [1, 4, 5] (.seq (.tidy [1, 2, 3, 4] (.seq (.reg false [] [⟨.faddr 2 (.t 1), some 27, none⟩,
  ⟨.load true 32 (.t 27), some 28, none⟩,
  ⟨.mv (.c (.p (.i .i64 0))), some 29, none⟩])
 (.keep [1, 4, 5, 28, 29] (.block 1 (.loop [1, 4, 5, 28, 29] J36)))))
 (.keep [1, 4] J3W))))))))
def J2l : AFn := ⟨1, 56, J3r, [.tmp 2, .tmp 3], false⟩
def J66 : Ji := .seq (.reg false [] [⟨.mv (.c (.p (.s []))), some 2, none⟩])
 (.seq (.seq (.reg false [] [⟨.mv (.t 0), some 4, none⟩,
  ⟨.len true (.t 4), some 5, none⟩,
  ⟨.bin .gtr .plain (.t 5) (.c (.p (.i .i64 8392))), some 6, none⟩])
 (.keep [0, 6] (.cond (.t 6)
 (.seq (.reg false [] [⟨.mv (.c (.p (.s []))), some 2, none⟩])
  (.ret))
 (.skip))))
 (.seq (.reg false [] [⟨.mv (.t 0), some 7, none⟩,
  ⟨.len true (.t 7), some 8, none⟩,
  ⟨.call J1q [(.c (.p (.s []))), (.t 8), (.c (.p (.i .i64 4)))] 0, some 9, none⟩,
  ⟨.mv (.t 0), some 10, none⟩,
  ⟨.bin .add .plain (.t 9) (.t 10), some 11, none⟩,
  ⟨.mv (.t 11), some 3, none⟩])
 (.keep [3] (.seq (.reg false [] [⟨.mv (.t 3), some 12, none⟩,
  ⟨.mv (.t 3), some 13, none⟩,
  ⟨.call J4O [(.t 13)] 0, some 14, none⟩,
  ⟨.conv (.int .i64) (.t 14), some 15, none⟩,
  ⟨.call J1q [(.t 12), (.t 15), (.c (.p (.i .i64 4)))] 0, some 16, none⟩,
  ⟨.mv (.t 16), some 2, none⟩])
 (.ret)))))
def J6a : AFn := ⟨1, 17, J66, [.tmp 2], false⟩
def J3u : Ji := .seq (.reg false [] [⟨.box 34 (.t 0), some 1, none⟩,
  ⟨.mv (.c (.p (.i .i64 0))), some 2, none⟩])
 (.seq (.block 0 (.seq (.reg false [] [⟨.load true 34 (.t 1), some 4, none⟩,
  ⟨.call J51 [(.t 4)] 0, some 5, none⟩,
  ⟨.un .not (.t 5), some 6, none⟩,
  ⟨.mv (.t 6), some 3, none⟩])
 (.keep [1, 3] (.cond (.t 3)
 (.seq (.reg false [] [⟨.mv (.c (.p (.i .i64 1))), some 2, none⟩])
  (.ret))
 (.seq (.reg false [] [⟨.load true 34 (.t 1), some 8, none⟩,
   ⟨.call J6j [(.t 8)] 0, some 9, none⟩,
   ⟨.un .not (.t 9), some 10, none⟩,
   ⟨.mv (.t 10), some 7, none⟩])
  (.keep [7] (.cond (.t 7)
  (.seq (.reg false [] [⟨.mv (.c (.p (.i .i64 22))), some 2, none⟩])
   (.ret))
  (.skip))))))))
 (.seq (.reg false [] [⟨.mv (.c (.p (.i .i64 0))), some 2, none⟩])
 (.ret)))
def J62 : AFn := ⟨1, 11, J3u, [.tmp 2], false⟩
def J0n : Ji := .seq (.reg false [] [⟨.newbox (J4 default), some 2, none⟩,
  ⟨.mv (.c (.p (.i .i64 0))), some 3, none⟩])
 (.seq (.block 0 (.seq (.reg false [] [⟨.mv (.t 0), some 9, none⟩,
  ⟨.len true (.t 9), some 10, none⟩,
  ⟨.bin .neq .plain (.t 10) (.c (.p (.i .i64 256))), some 11, none⟩,
  ⟨.mv (.t 11), some 8, none⟩])
 (.keep [0, 2, 8] (.cond (.t 8)
 (.seq (.reg false [] [⟨.build (J4 default) [], some 12, none⟩,
   ⟨.store 34 (.t 2) (.t 12), none, none⟩,
   ⟨.mv (.c (.p (.i .i64 2))), some 3, none⟩])
  (.ret))
 (.seq (.reg false [] [⟨.mv (.t 0), some 14, none⟩,
   ⟨.call J6U [] 0, some 15, none⟩,
   ⟨.bin .eql .plain (.t 14) (.t 15), some 16, none⟩,
   ⟨.mv (.t 16), some 13, none⟩])
  (.keep [0, 2, 13] (.cond (.t 13)
  (.seq (.reg false [] [⟨.build (J4 default) [], some 17, none⟩,
    ⟨.store 34 (.t 2) (.t 17), none, none⟩,
    ⟨.mv (.c (.p (.i .i64 7))), some 3, none⟩])
   (.ret))
  (.seq (.reg true [] [⟨.mv (.t 0), some 19, none⟩,
    ⟨.slice .str (.t 19) none (some (.c (.p (.i .i64 8)))) none, some 20, none⟩,
    ⟨.mv (.t 0), some 21, none⟩,
    ⟨.slice .str (.t 21) (some (.c (.p (.i .i64 248)))) none none, some 22, none⟩,
    ⟨.bin .neq .plain (.t 20) (.t 22), some 23, none⟩,
    ⟨.mv (.t 23), some 18, none⟩])
   (.keep [0, 2, 18] (.cond (.t 18)
   (.seq (.reg false [] [⟨.build (J4 default) [], some 24, none⟩,
     ⟨.store 34 (.t 2) (.t 24), none, none⟩,
     ⟨.mv (.c (.p (.i .i64 27))), some 3, none⟩])
    (.ret))
   (.seq (.reg true [] [⟨.mv (.t 0), some 26, none⟩,
     ⟨.call J3s [(.t 26), (.c (.p (.i .i64 244))), (.c (.p (.i .i64 4)))] 0, some 27, none⟩,
     ⟨.mv (.t 0), some 28, none⟩,
     ⟨.slice .str (.t 28) none (some (.c (.p (.i .i64 244)))) none, some 29, none⟩,
     ⟨.call J4O [(.t 29)] 0, some 30, none⟩,
     ⟨.conv (.int .i64) (.t 30), some 31, none⟩,
     ⟨.bin .neq .plain (.t 27) (.t 31), some 32, none⟩,
     ⟨.mv (.t 32), some 25, none⟩])
    (.keep [0, 2, 25] (.cond (.t 25)
    (.seq (.reg false [] [⟨.build (J4 default) [], some 33, none⟩,
      ⟨.store 34 (.t 2) (.t 33), none, none⟩,
      ⟨.mv (.c (.p (.i .i64 3))), some 3, none⟩])
     (.ret))
    (.skip))))))))))))))
 (.seq (.reg false [] [⟨.mv (.t 0), some 35, none⟩,
  ⟨.call J7T [(.t 35)] 0, some 36, none⟩,
  ⟨.mv (.t 36), some 34, none⟩,
  ⟨.extr (.t 34) 0, some 37, none⟩,
  ⟨.extr (.t 34) 1, some 38, none⟩,
  ⟨.newbox (J4 default), some 4, none⟩,
  ⟨.store 34 (.t 4) (.t 37), none, none⟩,
  ⟨.mv (.t 38), some 5, none⟩])
 (.keep [0, 2, 4, 5] (.seq (.seq (.reg false [] [⟨.load true 34 (.t 4), some 40, none⟩,
  ⟨.call J6c [(.t 40)] 0, some 41, none⟩,
  ⟨.mv (.t 41), some 39, none⟩,
  ⟨.extr (.t 39) 0, some 42, none⟩,
  ⟨.extr (.t 39) 1, some 43, none⟩,
  ⟨.mv (.t 42), some 6, none⟩,
  ⟨.mv (.t 43), some 7, none⟩])
 (.keep [0, 2, 4, 5, 6, 7] (.seq (.reg false [] [⟨.mv (.t 5), some 44, none⟩,
  ⟨.un .not (.t 44), some 45, none⟩,
  ⟨.mv (.t 45), some 46, none⟩,
  ⟨.mv (.t 7), some 47, some (46, false)⟩,
  ⟨.bin .neq .plain (.t 47) (.c (.p (.i .i64 0))), some 48, some (46, false)⟩,
  ⟨.pick (.t 46) (.c (.p (.b true))) (.t 48), some 49, none⟩,
  ⟨.mv (.t 49), some 50, none⟩,
  ⟨.mv (.t 6), some 51, some (50, false)⟩,
  ⟨.mv (.t 0), some 52, some (50, false)⟩,
  ⟨.bin .neq .plain (.t 51) (.t 52), some 53, some (50, false)⟩,
  ⟨.pick (.t 50) (.c (.p (.b true))) (.t 53), some 54, none⟩])
 (.keep [2, 4, 54] (.cond (.t 54)
 (.seq (.reg false [] [⟨.build (J4 default) [], some 55, none⟩,
   ⟨.store 34 (.t 2) (.t 55), none, none⟩,
   ⟨.mv (.c (.p (.i .i64 4))), some 3, none⟩])
  (.ret))
 (.skip))))))
 (.seq (.reg false [] [⟨.load true 34 (.t 4), some 56, none⟩,
  ⟨.store 34 (.t 2) (.t 56), none, none⟩,
  ⟨.mv (.c (.p (.i .i64 0))), some 3, none⟩])
 (.ret))))))
def J6e : AFn := ⟨1, 57, J0n, [.cell 2 true 34, .tmp 3], false⟩
def J9m : Ji := .seq (.reg false [] [⟨.mv (.t 5), some 35, none⟩,
  ⟨.mv (.t 7), some 36, none⟩,
  ⟨.call J3P [(.t 35), (.t 36), (.c (.p (.i .i64 1)))] 0, some 37, none⟩,
  ⟨.mv (.t 37), some 5, none⟩])
 (.keep [1, 5, 6] (.reg true [(5, 13)] [⟨.mv (.t 5), some 38, none⟩,
  ⟨.mv (.t 6), some 39, none⟩,
  ⟨.faddr 2 (.t 1), some 40, none⟩,
  ⟨.aaddr 16 2 (.t 40) (.t 39), some 41, none⟩,
  ⟨.faddr 1 (.t 41), some 42, none⟩,
  ⟨.load false 1 (.t 42), some 43, none⟩,
  ⟨.mv (.t 6), some 44, none⟩,
  ⟨.faddr 2 (.t 1), some 45, none⟩,
  ⟨.aaddr 16 2 (.t 45) (.t 44), some 46, none⟩,
  ⟨.faddr 1 (.t 46), some 47, none⟩,
  ⟨.load false 1 (.t 47), some 48, none⟩,
  ⟨.len true (.t 48), some 49, none⟩,
  ⟨.bin .sub .plain (.c (.p (.i .i64 12))) (.t 49), some 50, none⟩,
  ⟨.call J3y [(.t 50)] 0, some 51, none⟩,
  ⟨.bin .add .plain (.t 43) (.t 51), some 52, none⟩,
  ⟨.bin .add .plain (.t 38) (.t 52), some 53, none⟩,
  ⟨.mv (.t 53), some 5, none⟩]))
def J7i : Ji := .reg false [] [⟨.mv (.t 6), some 22, none⟩,
  ⟨.bin .add .plain (.t 22) (.c (.p (.i .i64 1))), some 23, none⟩,
  ⟨.mv (.t 23), some 6, none⟩]
def J11 : Ji := .seq (.seq (.reg false [] [⟨.mv (.t 6), some 20, none⟩,
  ⟨.bin .lss .plain (.t 20) (.c (.p (.i .i64 16))), some 21, none⟩])
 (.cond (.t 21)
 (.skip)
 (.exit 0)))
 (.seq (.block 1 (.seq (.reg false [] [⟨.mv (.c (.p (.i .i64 255))), some 7, none⟩])
 (.seq (.seq (.reg false [] [⟨.mv (.t 6), some 24, none⟩,
  ⟨.faddr 2 (.t 1), some 25, none⟩,
  ⟨.aaddr 16 2 (.t 25) (.t 24), some 26, none⟩,
  ⟨.faddr 0 (.t 26), some 27, none⟩,
  ⟨.load false 1 (.t 27), some 28, none⟩])
 (.keep [1, 5, 6, 7, 28] (.cond (.t 28)
 (.reg false [] [⟨.mv (.t 6), some 29, none⟩,
   ⟨.faddr 2 (.t 1), some 30, none⟩,
   ⟨.aaddr 16 2 (.t 30) (.t 29), some 31, none⟩,
   ⟨.faddr 1 (.t 31), some 32, none⟩,
   ⟨.load false 1 (.t 32), some 33, none⟩,
   ⟨.len true (.t 33), some 34, none⟩,
   ⟨.mv (.t 34), some 7, none⟩])
 (.skip))))
 (.keep [1, 5, 6, 7] J9m))))
 (.keep [1, 5, 6] J7i))
def J2d : Ji := .seq (.reg false [] [⟨.mv (.t 5), some 54, none⟩,
  ⟨.mv (.t 5), some 55, none⟩,
  ⟨.len true (.t 55), some 56, none⟩,
  ⟨.bin .sub .plain (.c (.p (.i .i64 244))) (.t 56), some 57, none⟩,
  ⟨.call J3y [(.t 57)] 0, some 58, none⟩,
  ⟨.bin .add .plain (.t 54) (.t 58), some 59, none⟩,
  ⟨.mv (.t 59), some 5, none⟩])
 (.keep [1, 5] (.seq (.reg false [] [⟨.mv (.t 5), some 60, none⟩,
  ⟨.mv (.t 5), some 61, none⟩,
  ⟨.call J6G [(.t 61)] 0, some 62, none⟩,
  ⟨.conv (.int .i64) (.t 62), some 63, none⟩,
  ⟨.call J3P [(.t 60), (.t 63), (.c (.p (.i .i64 4)))] 0, some 64, none⟩,
  ⟨.mv (.t 64), some 5, none⟩])
 (.keep [1, 5] (.seq (.reg false [] [⟨.mv (.t 5), some 65, none⟩,
  ⟨.faddr 1 (.t 1), some 66, none⟩,
  ⟨.load false 1 (.t 66), some 67, none⟩,
  ⟨.call J3P [(.t 65), (.t 67), (.c (.p (.i .i64 8)))] 0, some 68, none⟩,
  ⟨.mv (.t 68), some 2, none⟩,
  ⟨.mv (.c (.p (.i .i64 0))), some 3, none⟩])
 (.ret)))))
def J4C : Ji := .seq (.reg false [] [⟨.box 34 (.t 0), some 1, none⟩,
  ⟨.mv (.c (.p (.s []))), some 2, none⟩,
  ⟨.mv (.c (.p (.i .i64 0))), some 3, none⟩])
 (.keep [1] (.seq (.seq (.reg false [] [⟨.load true 34 (.t 1), some 8, none⟩,
  ⟨.call J6b [(.t 8)] 0, some 9, none⟩,
  ⟨.mv (.t 9), some 4, none⟩])
 (.keep [1, 4] (.seq (.reg false [] [⟨.mv (.t 4), some 10, none⟩,
  ⟨.bin .neq .plain (.t 10) (.c (.p (.i .i64 0))), some 11, none⟩])
 (.cond (.t 11)
 (.seq (.reg false [] [⟨.mv (.t 4), some 12, none⟩,
   ⟨.mv (.c (.p (.s []))), some 2, none⟩,
   ⟨.mv (.t 12), some 3, none⟩])
  (.ret))
 (.skip)))))
 (.seq (.reg false [] [⟨.faddr 1 (.t 1), some 13, none⟩,
  ⟨.load false 1 (.t 13), some 14, none⟩,
  ⟨.call J3P [(.c (.p (.s []))), (.t 14), (.c (.p (.i .i64 8)))] 0, some 15, none⟩,
  ⟨.mv (.t 15), some 5, none⟩])
 (.keep [1, 5] (.seq (.reg false [] [⟨.mv (.t 5), some 16, none⟩,
  ⟨.faddr 0 (.t 1), some 17, none⟩,
  ⟨.load false 1 (.t 17), some 18, none⟩,
  ⟨.call J3P [(.t 16), (.t 18), (.c (.p (.i .i64 4)))] 0, some 19, none⟩,
  ⟨.mv (.t 19), some 5, none⟩])
 (.keep [1, 5] (.seq (.seq (.reg false [] [⟨.mv (.c (.p (.i .i64 0))), some 6, none⟩])
 (.block 0 (.loop [1, 5, 6] J11)))
 (.keep [1, 5] J2d))))))))
def J1f : AFn := ⟨1, 69, J4C, [.tmp 2, .tmp 3], false⟩
def J47 : Ji := .seq (.reg false [] [⟨.mv (.c (.p (.s []))), some 4, none⟩])
 (.seq (.seq (.reg false [] [⟨.mv (.t 0), some 7, none⟩,
  ⟨.call Jh [(.t 7), (.c (.p (.i .i64 6)))] 0, some 8, none⟩])
 (.block 0 (.seq (.reg false [] [⟨.bin .eql .plain (.t 8) (.c (.p (.i .i64 0))), some 10, none⟩,
  ⟨.mv (.t 10), some 9, none⟩])
 (.cond (.t 9)
 (.seq (.reg false [] [⟨.call J5l [] 0, some 11, none⟩,
   ⟨.mv (.t 11), some 4, none⟩])
  (.ret))
 (.seq (.reg false [] [⟨.bin .eql .plain (.t 8) (.c (.p (.i .i64 1))), some 13, none⟩,
   ⟨.mv (.t 13), some 12, none⟩])
  (.cond (.t 12)
  (.seq (.reg false [] [⟨.mv (.t 0), some 14, none⟩,
    ⟨.call J3F [(.t 14)] 0, some 15, none⟩,
    ⟨.mv (.t 15), some 4, none⟩])
   (.ret))
  (.skip)))))))
 (.seq (.reg false [] [⟨.mv (.t 0), some 17, none⟩,
  ⟨.mv (.t 1), some 18, none⟩,
  ⟨.call J1r [(.t 17), (.t 18)] 0, some 19, none⟩,
  ⟨.call J2Q [(.t 19)] 0, some 20, none⟩,
  ⟨.mv (.t 20), some 16, none⟩,
  ⟨.extr (.t 16) 0, some 21, none⟩,
  ⟨.extr (.t 16) 1, some 22, none⟩,
  ⟨.mv (.t 21), some 5, none⟩,
  ⟨.mv (.t 22), some 6, none⟩])
 (.keep [5] (.seq (.reg false [] [⟨.mv (.t 5), some 23, none⟩,
  ⟨.mv (.t 23), some 4, none⟩])
 (.ret)))))
def J71 : AFn := ⟨2, 24, J47, [.tmp 4], false⟩
def J0Z : Ji := .seq (.reg false [] [⟨.newbox (J4 default), some 4, none⟩,
  ⟨.mv (.c (.p (.i .i64 0))), some 5, none⟩])
 (.seq (.seq (.reg false [] [⟨.mv (.t 1), some 8, none⟩,
  ⟨.call J5K [(.t 8)] 0, some 9, none⟩,
  ⟨.un .not (.t 9), some 10, none⟩])
 (.keep [0, 1, 4, 10] (.cond (.t 10)
 (.seq (.reg false [] [⟨.build (J4 default) [], some 11, none⟩,
   ⟨.store 34 (.t 4) (.t 11), none, none⟩,
   ⟨.mv (.c (.p (.i .i64 1))), some 5, none⟩])
  (.ret))
 (.skip))))
 (.seq (.reg false [] [⟨.mv (.t 0), some 13, none⟩,
  ⟨.call J68 [(.t 13)] 0, some 14, none⟩,
  ⟨.mv (.t 14), some 12, none⟩,
  ⟨.extr (.t 12) 0, some 15, none⟩,
  ⟨.extr (.t 12) 1, some 16, none⟩,
  ⟨.newbox (J4 default), some 6, none⟩,
  ⟨.store 34 (.t 6) (.t 15), none, none⟩,
  ⟨.mv (.t 16), some 7, none⟩])
 (.keep [1, 4, 6, 7] (.seq (.block 0 (.seq (.reg false [] [⟨.mv (.t 7), some 18, none⟩,
  ⟨.bin .eql .plain (.t 18) (.c (.p (.i .i64 7))), some 19, none⟩,
  ⟨.mv (.t 19), some 17, none⟩])
 (.keep [1, 4, 6, 7, 17] (.cond (.t 17)
 (.seq (.reg false [] [⟨.mv (.t 1), some 20, none⟩,
   ⟨.call J8B [(.t 20)] 0, some 21, none⟩,
   ⟨.store 34 (.t 4) (.t 21), none, none⟩,
   ⟨.mv (.c (.p (.i .i64 0))), some 5, none⟩])
  (.ret))
 (.seq (.reg false [] [⟨.mv (.t 7), some 23, none⟩,
   ⟨.bin .neq .plain (.t 23) (.c (.p (.i .i64 0))), some 24, none⟩,
   ⟨.mv (.t 24), some 22, none⟩])
  (.keep [1, 4, 6, 7, 22] (.cond (.t 22)
  (.seq (.reg false [] [⟨.build (J4 default) [], some 25, none⟩,
    ⟨.mv (.t 7), some 26, none⟩,
    ⟨.store 34 (.t 4) (.t 25), none, none⟩,
    ⟨.mv (.t 26), some 5, none⟩])
   (.ret))
  (.seq (.reg false [] [⟨.faddr 0 (.t 6), some 28, none⟩,
    ⟨.load false 1 (.t 28), some 29, none⟩,
    ⟨.mv (.t 1), some 30, none⟩,
    ⟨.bin .neq .plain (.t 29) (.t 30), some 31, none⟩,
    ⟨.mv (.t 31), some 27, none⟩])
   (.keep [4, 6, 27] (.cond (.t 27)
   (.seq (.reg false [] [⟨.build (J4 default) [], some 32, none⟩,
     ⟨.store 34 (.t 4) (.t 32), none, none⟩,
     ⟨.mv (.c (.p (.i .i64 6))), some 5, none⟩])
    (.ret))
   (.skip)))))))))))
 (.seq (.reg false [] [⟨.load true 34 (.t 6), some 33, none⟩,
  ⟨.store 34 (.t 4) (.t 33), none, none⟩,
  ⟨.mv (.c (.p (.i .i64 0))), some 5, none⟩])
 (.ret))))))
def J55 : AFn := ⟨2, 34, J0Z, [.cell 4 true 34, .tmp 5], false⟩
def J9z : Ji := .reg false [] [⟨.mv (.t 7), some 55, none⟩,
  ⟨.bin .add .plain (.t 55) (.c (.p (.i .i64 1))), some 56, none⟩,
  ⟨.mv (.t 56), some 7, none⟩]
def J0K : Ji := .seq (.seq (.reg false [] [⟨.mv (.t 7), some 53, none⟩,
  ⟨.bin .lss .plain (.t 53) (.c (.p (.i .i64 16))), some 54, none⟩])
 (.cond (.t 54)
 (.skip)
 (.exit 1)))
 (.seq (.block 2 (.seq (.reg false [] [⟨.mv (.t 7), some 57, none⟩,
  ⟨.bin .mul .plain (.t 57) (.c (.p (.i .i64 13))), some 58, none⟩,
  ⟨.bin .add .plain (.c (.p (.i .i64 12))) (.t 58), some 59, none⟩,
  ⟨.mv (.t 59), some 8, none⟩])
 (.keep [0, 2, 6, 7, 8] (.seq (.reg false [] [⟨.mv (.t 0), some 60, none⟩,
  ⟨.mv (.t 8), some 61, none⟩,
  ⟨.sidx (.t 60) (.t 61), some 62, none⟩,
  ⟨.conv (.int .i64) (.t 62), some 63, none⟩,
  ⟨.mv (.t 63), some 9, none⟩])
 (.keep [0, 2, 6, 7, 8, 9] (.seq (.seq (.reg false [] [⟨.mv (.t 9), some 64, none⟩,
  ⟨.bin .eql .plain (.t 64) (.c (.p (.i .i64 255))), some 65, none⟩])
 (.cond (.t 65)
 (.exit 2)
 (.skip)))
 (.seq (.seq (.reg false [] [⟨.mv (.t 9), some 66, none⟩,
  ⟨.bin .gtr .plain (.t 66) (.c (.p (.i .i64 12))), some 67, none⟩])
 (.cond (.t 67)
 (.seq (.reg false [] [⟨.build (J4 default) [], some 68, none⟩,
   ⟨.store 34 (.t 2) (.t 68), none, none⟩,
   ⟨.mv (.c (.p (.i .i64 4))), some 3, none⟩])
  (.ret))
 (.skip)))
 (.reg false [] [⟨.mv (.t 7), some 69, none⟩,
  ⟨.mv (.t 0), some 70, none⟩,
  ⟨.mv (.t 8), some 71, none⟩,
  ⟨.bin .add .plain (.t 71) (.c (.p (.i .i64 1))), some 72, none⟩,
  ⟨.mv (.t 8), some 73, none⟩,
  ⟨.bin .add .plain (.t 73) (.c (.p (.i .i64 1))), some 74, none⟩,
  ⟨.mv (.t 9), some 75, none⟩,
  ⟨.bin .add .plain (.t 74) (.t 75), some 76, none⟩,
  ⟨.slice .str (.t 70) (some (.t 72)) (some (.t 76)) none, some 77, none⟩,
  ⟨.build (Jg default) [(0, 1, (.c (.p (.b true)))), (1, 1, (.t 77))], some 78, none⟩,
  ⟨.faddr 2 (.t 6), some 79, none⟩,
  ⟨.aaddr 16 2 (.t 79) (.t 69), some 80, none⟩,
  ⟨.store 2 (.t 80) (.t 78), none, none⟩]))))))))
 (.keep [0, 2, 6, 7] J9z))
def J13 : Ji := .seq (.seq (.reg false [] [⟨.load true 34 (.t 6), some 82, none⟩,
  ⟨.call J2Q [(.t 82)] 0, some 83, none⟩,
  ⟨.mv (.t 83), some 81, none⟩,
  ⟨.extr (.t 81) 0, some 84, none⟩,
  ⟨.extr (.t 81) 1, some 85, none⟩,
  ⟨.mv (.t 84), some 10, none⟩,
  ⟨.mv (.t 85), some 11, none⟩])
 (.keep [0, 2, 6, 10, 11] (.seq (.reg false [] [⟨.mv (.t 11), some 86, none⟩,
  ⟨.bin .neq .plain (.t 86) (.c (.p (.i .i64 0))), some 87, none⟩,
  ⟨.mv (.t 87), some 88, none⟩,
  ⟨.mv (.t 10), some 89, some (88, false)⟩,
  ⟨.mv (.t 0), some 90, some (88, false)⟩,
  ⟨.bin .neq .plain (.t 89) (.t 90), some 91, some (88, false)⟩,
  ⟨.pick (.t 88) (.c (.p (.b true))) (.t 91), some 92, none⟩])
 (.keep [2, 6, 92] (.cond (.t 92)
 (.seq (.reg false [] [⟨.build (J4 default) [], some 93, none⟩,
   ⟨.store 34 (.t 2) (.t 93), none, none⟩,
   ⟨.mv (.c (.p (.i .i64 4))), some 3, none⟩])
  (.ret))
 (.skip))))))
 (.seq (.reg false [] [⟨.load true 34 (.t 6), some 94, none⟩,
  ⟨.store 34 (.t 2) (.t 94), none, none⟩,
  ⟨.mv (.c (.p (.i .i64 0))), some 3, none⟩])
 (.ret))
def J1z : Ji := .seq (.reg false [] [⟨.newbox (J4 default), some 2, none⟩,
  ⟨.mv (.c (.p (.i .i64 0))), some 3, none⟩])
 (.seq (.block 0 (.seq (.reg false [] [⟨.mv (.t 0), some 13, none⟩,
  ⟨.len true (.t 13), some 14, none⟩,
  ⟨.bin .neq .plain (.t 14) (.c (.p (.i .i64 256))), some 15, none⟩,
  ⟨.mv (.t 15), some 12, none⟩])
 (.keep [0, 2, 12] (.cond (.t 12)
 (.seq (.reg false [] [⟨.build (J4 default) [], some 16, none⟩,
   ⟨.store 34 (.t 2) (.t 16), none, none⟩,
   ⟨.mv (.c (.p (.i .i64 2))), some 3, none⟩])
  (.ret))
 (.seq (.reg false [] [⟨.mv (.t 0), some 18, none⟩,
   ⟨.call J5l [] 0, some 19, none⟩,
   ⟨.bin .eql .plain (.t 18) (.t 19), some 20, none⟩,
   ⟨.mv (.t 20), some 17, none⟩])
  (.keep [0, 2, 17] (.cond (.t 17)
  (.seq (.reg false [] [⟨.build (J4 default) [], some 21, none⟩,
    ⟨.store 34 (.t 2) (.t 21), none, none⟩,
    ⟨.mv (.c (.p (.i .i64 7))), some 3, none⟩])
   (.ret))
  (.seq (.reg true [] [⟨.mv (.t 0), some 23, none⟩,
    ⟨.slice .str (.t 23) none (some (.c (.p (.i .i64 8)))) none, some 24, none⟩,
    ⟨.mv (.t 0), some 25, none⟩,
    ⟨.slice .str (.t 25) (some (.c (.p (.i .i64 248)))) none none, some 26, none⟩,
    ⟨.bin .neq .plain (.t 24) (.t 26), some 27, none⟩,
    ⟨.mv (.t 27), some 22, none⟩])
   (.keep [0, 2, 22] (.cond (.t 22)
   (.seq (.reg false [] [⟨.build (J4 default) [], some 28, none⟩,
     ⟨.store 34 (.t 2) (.t 28), none, none⟩,
     ⟨.mv (.c (.p (.i .i64 27))), some 3, none⟩])
    (.ret))
   (.skip)))))))))))
 (.seq (.reg false [] [⟨.mv (.t 0), some 30, none⟩,
  ⟨.call J5y [(.t 30), (.c (.p (.i .i64 244))), (.c (.p (.i .i64 4)))] 0, some 31, none⟩,
  ⟨.mv (.t 31), some 29, none⟩,
  ⟨.extr (.t 29) 0, some 32, none⟩,
  ⟨.extr (.t 29) 1, some 33, none⟩,
  ⟨.mv (.t 32), some 4, none⟩,
  ⟨.mv (.t 33), some 5, none⟩])
 (.keep [0, 2, 4] (.seq (.seq (.reg false [] [⟨.mv (.t 4), some 34, none⟩,
  ⟨.conv (.int .u32) (.t 34), some 35, none⟩,
  ⟨.mv (.t 0), some 36, none⟩,
  ⟨.slice .str (.t 36) none (some (.c (.p (.i .i64 244)))) none, some 37, none⟩,
  ⟨.call J6G [(.t 37)] 0, some 38, none⟩,
  ⟨.bin .neq .plain (.t 35) (.t 38), some 39, none⟩])
 (.keep [0, 2, 39] (.cond (.t 39)
 (.seq (.reg false [] [⟨.build (J4 default) [], some 40, none⟩,
   ⟨.store 34 (.t 2) (.t 40), none, none⟩,
   ⟨.mv (.c (.p (.i .i64 3))), some 3, none⟩])
  (.ret))
 (.skip))))
 (.seq (.reg false [] [⟨.newbox (J4 default), some 6, none⟩])
 (.seq (.reg false [] [⟨.mv (.t 0), some 42, none⟩,
  ⟨.call J5y [(.t 42), (.c (.p (.i .i64 0))), (.c (.p (.i .i64 8)))] 0, some 43, none⟩,
  ⟨.mv (.t 43), some 41, none⟩,
  ⟨.extr (.t 41) 0, some 44, none⟩,
  ⟨.extr (.t 41) 1, some 45, none⟩,
  ⟨.faddr 1 (.t 6), some 46, none⟩,
  ⟨.store 1 (.t 46) (.t 44), none, none⟩])
 (.keep [0, 2, 6] (.seq (.reg false [] [⟨.mv (.t 0), some 48, none⟩,
  ⟨.call J5y [(.t 48), (.c (.p (.i .i64 8))), (.c (.p (.i .i64 4)))] 0, some 49, none⟩,
  ⟨.mv (.t 49), some 47, none⟩,
  ⟨.extr (.t 47) 0, some 50, none⟩,
  ⟨.extr (.t 47) 1, some 51, none⟩,
  ⟨.faddr 0 (.t 6), some 52, none⟩,
  ⟨.store 1 (.t 52) (.t 50), none, none⟩])
 (.keep [0, 2, 6] (.seq (.seq (.reg false [] [⟨.mv (.c (.p (.i .i64 0))), some 7, none⟩])
 (.block 1 (.loop [0, 2, 6, 7] J0K)))
 (.keep [0, 2, 6] J13)))))))))))
def J1x : AFn := ⟨1, 95, J1z, [.cell 2 true 34, .tmp 3], false⟩
def JS : Ji := .seq (.reg false [] [⟨.bin .lss .plain (.t 36) (.t 35), some 37, none⟩])
 (.seq (.cond (.t 37)
 (.skip)
 (.exit 0))
 (.seq (.block 1 (.seq (.reg false [] [⟨.mv (.t 36), some 38, none⟩,
  ⟨.mv (.t 38), some 3, none⟩])
 (.seq (.reg false [] [⟨.faddr 2 (.t 1), some 39, none⟩,
  ⟨.load false 1 (.t 39), some 40, none⟩,
  ⟨.mv (.t 3), some 41, none⟩,
  ⟨.iaddr 3 (.t 40) (.t 41), some 42, none⟩,
  ⟨.load true 3 (.t 42), some 43, none⟩,
  ⟨.newbox (J6 default), some 4, none⟩,
  ⟨.store 3 (.t 4) (.t 43), none, none⟩])
 (.keep [1, 3, 4, 35, 36] (.seq (.seq (.reg true [] [⟨.faddr 0 (.t 4), some 44, none⟩,
  ⟨.load false 1 (.t 44), some 45, none⟩,
  ⟨.faddr 1 (.t 1), some 46, none⟩,
  ⟨.load false 1 (.t 46), some 47, none⟩,
  ⟨.bin .geq .plain (.t 45) (.t 47), some 48, none⟩,
  ⟨.mv (.t 48), some 49, none⟩,
  ⟨.mv (.t 3), some 50, some (49, false)⟩,
  ⟨.bin .gtr .plain (.t 50) (.c (.p (.i .i64 0))), some 51, some (49, false)⟩,
  ⟨.mv (.t 51), some 52, some (49, false)⟩,
  ⟨.faddr 2 (.t 1), some 53, some (52, true)⟩,
  ⟨.load false 1 (.t 53), some 54, some (52, true)⟩,
  ⟨.mv (.t 3), some 55, some (52, true)⟩,
  ⟨.bin .sub .plain (.t 55) (.c (.p (.i .i64 1))), some 56, some (52, true)⟩,
  ⟨.iaddr 3 (.t 54) (.t 56), some 57, some (52, true)⟩,
  ⟨.faddr 0 (.t 57), some 58, some (52, true)⟩,
  ⟨.load false 1 (.t 58), some 59, some (52, true)⟩,
  ⟨.faddr 0 (.t 4), some 60, some (52, true)⟩,
  ⟨.load false 1 (.t 60), some 61, some (52, true)⟩,
  ⟨.bin .geq .plain (.t 59) (.t 61), some 62, some (52, true)⟩,
  ⟨.pick (.t 52) (.t 62) (.c (.p (.b false))), some 63, some (49, false)⟩,
  ⟨.pick (.t 49) (.c (.p (.b true))) (.t 63), some 64, none⟩])
 (.keep [1, 4, 35, 36, 64] (.cond (.t 64)
 (.seq (.reg false [] [⟨.mv (.c (.p (.b false))), some 2, none⟩])
  (.ret))
 (.skip))))
 (.seq (.reg false [] [⟨.faddr 2 (.t 4), some 66, none⟩,
  ⟨.load false 1 (.t 66), some 67, none⟩,
  ⟨.faddr 0 (.t 4), some 68, none⟩,
  ⟨.load false 1 (.t 68), some 69, none⟩,
  ⟨.call J3Q [(.t 67), (.t 69)] 0, some 70, none⟩,
  ⟨.mv (.t 70), some 65, none⟩,
  ⟨.extr (.t 65) 0, some 71, none⟩,
  ⟨.extr (.t 65) 1, some 72, none⟩,
  ⟨.newbox (J4 default), some 5, none⟩,
  ⟨.store 34 (.t 5) (.t 71), none, none⟩,
  ⟨.mv (.t 72), some 6, none⟩])
 (.keep [1, 4, 5, 6, 35, 36] (.seq (.reg false [] [⟨.mv (.t 6), some 73, none⟩,
  ⟨.bin .neq .plain (.t 73) (.c (.p (.i .i64 0))), some 74, none⟩,
  ⟨.mv (.t 74), some 75, none⟩,
  ⟨.faddr 1 (.t 5), some 76, some (75, false)⟩,
  ⟨.load false 1 (.t 76), some 77, some (75, false)⟩,
  ⟨.faddr 1 (.t 4), some 78, some (75, false)⟩,
  ⟨.load false 1 (.t 78), some 79, some (75, false)⟩,
  ⟨.bin .neq .plain (.t 77) (.t 79), some 80, some (75, false)⟩,
  ⟨.pick (.t 75) (.c (.p (.b true))) (.t 80), some 81, none⟩])
 (.keep [1, 35, 36, 81] (.cond (.t 81)
 (.seq (.reg false [] [⟨.mv (.c (.p (.b false))), some 2, none⟩])
  (.ret))
 (.skip)))))))))))
 (.reg false [] [⟨.bin .add .plain (.t 36) (.c (.p (.i .i64 1))), some 82, none⟩,
  ⟨.mv (.t 82), some 36, none⟩])))
def J3S : Ji := .seq (.reg false [] [⟨.mv (.c (.p (.b true))), some 2, none⟩])
 (.ret)
def J1i : Ji := .seq (.reg false [] [⟨.box 3 (.t 0), some 1, none⟩,
  ⟨.mv (.c (.p (.b false))), some 2, none⟩])
 (.seq (.seq (.reg false [] [⟨.faddr 0 (.t 1), some 7, none⟩,
  ⟨.load false 1 (.t 7), some 8, none⟩,
  ⟨.bin .lss .plain (.t 8) (.c (.p (.i .i64 1))), some 9, none⟩,
  ⟨.mv (.t 9), some 10, none⟩,
  ⟨.faddr 0 (.t 1), some 11, some (10, false)⟩,
  ⟨.load false 1 (.t 11), some 12, some (10, false)⟩,
  ⟨.bin .gtr .plain (.t 12) (.c (.p (.i .i64 1073741824))), some 13, some (10, false)⟩,
  ⟨.pick (.t 10) (.c (.p (.b true))) (.t 13), some 14, none⟩,
  ⟨.mv (.t 14), some 15, none⟩,
  ⟨.faddr 1 (.t 1), some 16, some (15, false)⟩,
  ⟨.load false 1 (.t 16), some 17, some (15, false)⟩,
  ⟨.bin .lss .plain (.t 17) (.c (.p (.i .i64 1))), some 18, some (15, false)⟩,
  ⟨.pick (.t 15) (.c (.p (.b true))) (.t 18), some 19, none⟩,
  ⟨.mv (.t 19), some 20, none⟩,
  ⟨.faddr 1 (.t 1), some 21, some (20, false)⟩,
  ⟨.load false 1 (.t 21), some 22, some (20, false)⟩,
  ⟨.bin .gtr .plain (.t 22) (.c (.p (.i .i64 64))), some 23, some (20, false)⟩,
  ⟨.pick (.t 20) (.c (.p (.b true))) (.t 23), some 24, none⟩,
  ⟨.mv (.t 24), some 25, none⟩,
  ⟨.faddr 2 (.t 1), some 26, some (25, false)⟩,
  ⟨.load false 1 (.t 26), some 27, some (25, false)⟩,
  ⟨.len false (.t 27), some 28, some (25, false)⟩,
  ⟨.faddr 1 (.t 1), some 29, some (25, false)⟩,
  ⟨.load false 1 (.t 29), some 30, some (25, false)⟩,
  ⟨.bin .gtr .plain (.t 28) (.t 30), some 31, some (25, false)⟩,
  ⟨.pick (.t 25) (.c (.p (.b true))) (.t 31), some 32, none⟩])
 (.keep [1, 32] (.cond (.t 32)
 (.seq (.reg false [] [⟨.mv (.c (.p (.b false))), some 2, none⟩])
  (.ret))
 (.skip))))
 (.seq (.tidy [2] (.seq (.reg false [] [⟨.faddr 2 (.t 1), some 33, none⟩,
  ⟨.load false 1 (.t 33), some 34, none⟩,
  ⟨.len false (.t 34), some 35, none⟩,
  ⟨.mv (.c (.p (.i .i64 0))), some 36, none⟩])
 (.keep [1, 35, 36] (.block 0 (.loop [1, 35, 36] JS)))))
 (.keep [] J3S)))
def J2k : AFn := ⟨1, 83, J1i, [.tmp 2], false⟩
def J0t : Ji := .seq (.reg false [] [⟨.newbox (J4 default), some 4, none⟩,
  ⟨.mv (.c (.p (.i .i64 0))), some 5, none⟩])
 (.seq (.seq (.reg false [] [⟨.mv (.t 1), some 8, none⟩,
  ⟨.bin .lss .plain (.t 8) (.c (.p (.i .i64 0))), some 9, none⟩,
  ⟨.mv (.t 9), some 10, none⟩,
  ⟨.mv (.t 1), some 11, some (10, false)⟩,
  ⟨.bin .geq .plain (.t 11) (.c (.p (.i .i64 64))), some 12, some (10, false)⟩,
  ⟨.pick (.t 10) (.c (.p (.b true))) (.t 12), some 13, none⟩])
 (.keep [0, 1, 4, 13] (.cond (.t 13)
 (.seq (.reg false [] [⟨.build (J4 default) [], some 14, none⟩,
   ⟨.store 34 (.t 4) (.t 14), none, none⟩,
   ⟨.mv (.c (.p (.i .i64 1))), some 5, none⟩])
  (.ret))
 (.skip))))
 (.seq (.reg false [] [⟨.mv (.t 0), some 16, none⟩,
  ⟨.call J5B [(.t 16)] 0, some 17, none⟩,
  ⟨.mv (.t 17), some 15, none⟩,
  ⟨.extr (.t 15) 0, some 18, none⟩,
  ⟨.extr (.t 15) 1, some 19, none⟩,
  ⟨.newbox (J4 default), some 6, none⟩,
  ⟨.store 34 (.t 6) (.t 18), none, none⟩,
  ⟨.mv (.t 19), some 7, none⟩])
 (.keep [1, 4, 6, 7] (.seq (.seq (.reg false [] [⟨.mv (.t 7), some 20, none⟩,
  ⟨.bin .eql .plain (.t 20) (.c (.p (.i .i64 7))), some 21, none⟩])
 (.cond (.t 21)
 (.seq (.reg false [] [⟨.mv (.t 1), some 22, none⟩,
   ⟨.call J7S [(.t 22)] 0, some 23, none⟩,
   ⟨.store 34 (.t 4) (.t 23), none, none⟩,
   ⟨.mv (.c (.p (.i .i64 0))), some 5, none⟩])
  (.ret))
 (.skip)))
 (.seq (.seq (.reg false [] [⟨.mv (.t 7), some 24, none⟩,
  ⟨.bin .eql .plain (.t 24) (.c (.p (.i .i64 0))), some 25, none⟩,
  ⟨.mv (.t 25), some 26, none⟩,
  ⟨.faddr 0 (.t 6), some 27, some (26, true)⟩,
  ⟨.load false 1 (.t 27), some 28, some (26, true)⟩,
  ⟨.mv (.t 1), some 29, some (26, true)⟩,
  ⟨.bin .neq .plain (.t 28) (.t 29), some 30, some (26, true)⟩,
  ⟨.pick (.t 26) (.t 30) (.c (.p (.b false))), some 31, none⟩])
 (.keep [4, 6, 7, 31] (.cond (.t 31)
 (.seq (.reg false [] [⟨.build (J4 default) [], some 32, none⟩,
   ⟨.store 34 (.t 4) (.t 32), none, none⟩,
   ⟨.mv (.c (.p (.i .i64 6))), some 5, none⟩])
  (.ret))
 (.skip))))
 (.seq (.reg false [] [⟨.load true 34 (.t 6), some 33, none⟩,
  ⟨.mv (.t 7), some 34, none⟩,
  ⟨.store 34 (.t 4) (.t 33), none, none⟩,
  ⟨.mv (.t 34), some 5, none⟩])
 (.ret)))))))
def J4E : AFn := ⟨2, 35, J0t, [.cell 4 true 34, .tmp 5], false⟩
def Jb0 : Ji := .seq (.reg false [] [⟨.faddr 2 (.t 3), some 56, none⟩,
  ⟨.load false 1 (.t 56), some 57, none⟩,
  ⟨.mv (.t 10), some 58, none⟩,
  ⟨.mv (.t 1), some 59, none⟩,
  ⟨.faddr 1 (.t 8), some 60, none⟩,
  ⟨.load false 1 (.t 60), some 61, none⟩,
  ⟨.mv (.t 2), some 62, none⟩,
  ⟨.build (J6 default) [(0, 1, (.t 59)), (1, 1, (.t 61)), (2, 1, (.t 62))], some 63, none⟩,
  ⟨.iaddr 3 (.t 57) (.t 58), some 64, none⟩,
  ⟨.store 3 (.t 64) (.t 63), none, none⟩])
 (.keep [3, 6] (.seq (.reg false [] [⟨.load true 3 (.t 3), some 65, none⟩,
  ⟨.store 3 (.t 6) (.t 65), none, none⟩,
  ⟨.mv (.c (.p (.i .i64 0))), some 7, none⟩])
 (.ret)))
def J1J : Ji := .seq (.reg false [] [⟨.box 3 (.t 0), some 3, none⟩,
  ⟨.newbox (J7 default), some 6, none⟩,
  ⟨.mv (.c (.p (.i .i64 0))), some 7, none⟩])
 (.keep [1, 2, 3, 6] (.seq (.block 0 (.seq (.reg false [] [⟨.load true 3 (.t 3), some 13, none⟩,
  ⟨.call J3w [(.t 13)] 0, some 14, none⟩,
  ⟨.un .not (.t 14), some 15, none⟩,
  ⟨.mv (.t 15), some 12, none⟩])
 (.keep [1, 2, 3, 6, 12] (.cond (.t 12)
 (.seq (.reg false [] [⟨.build (J7 default) [], some 16, none⟩,
   ⟨.store 3 (.t 6) (.t 16), none, none⟩,
   ⟨.mv (.c (.p (.i .i64 43))), some 7, none⟩])
  (.ret))
 (.seq (.reg false [] [⟨.mv (.t 1), some 18, none⟩,
   ⟨.bin .lss .plain (.t 18) (.c (.p (.i .i64 0))), some 19, none⟩,
   ⟨.mv (.t 19), some 20, none⟩,
   ⟨.mv (.t 1), some 21, some (20, false)⟩,
   ⟨.faddr 1 (.t 3), some 22, some (20, false)⟩,
   ⟨.load false 1 (.t 22), some 23, some (20, false)⟩,
   ⟨.bin .geq .plain (.t 21) (.t 23), some 24, some (20, false)⟩,
   ⟨.pick (.t 20) (.c (.p (.b true))) (.t 24), some 25, none⟩,
   ⟨.mv (.t 25), some 17, none⟩])
  (.keep [1, 2, 3, 6, 17] (.cond (.t 17)
  (.seq (.reg false [] [⟨.build (J7 default) [], some 26, none⟩,
    ⟨.store 3 (.t 6) (.t 26), none, none⟩,
    ⟨.mv (.c (.p (.i .i64 1))), some 7, none⟩])
   (.ret))
  (.skip))))))))
 (.seq (.reg false [] [⟨.mv (.t 2), some 28, none⟩,
  ⟨.mv (.t 1), some 29, none⟩,
  ⟨.call J3Q [(.t 28), (.t 29)] 0, some 30, none⟩,
  ⟨.mv (.t 30), some 27, none⟩,
  ⟨.extr (.t 27) 0, some 31, none⟩,
  ⟨.extr (.t 27) 1, some 32, none⟩,
  ⟨.newbox (J4 default), some 8, none⟩,
  ⟨.store 34 (.t 8) (.t 31), none, none⟩,
  ⟨.mv (.t 32), some 9, none⟩])
 (.keep [1, 2, 3, 6, 8, 9] (.seq (.seq (.reg false [] [⟨.mv (.t 9), some 33, none⟩,
  ⟨.bin .neq .plain (.t 33) (.c (.p (.i .i64 0))), some 34, none⟩])
 (.cond (.t 34)
 (.seq (.reg false [] [⟨.build (J7 default) [], some 35, none⟩,
   ⟨.mv (.t 9), some 36, none⟩,
   ⟨.store 3 (.t 6) (.t 35), none, none⟩,
   ⟨.mv (.t 36), some 7, none⟩])
  (.ret))
 (.skip)))
 (.seq (.reg false [] [⟨.load true 3 (.t 3), some 38, none⟩,
  ⟨.mv (.t 1), some 39, none⟩,
  ⟨.call J5h [(.t 38), (.t 39)] 0, some 40, none⟩,
  ⟨.mv (.t 40), some 37, none⟩,
  ⟨.extr (.t 37) 0, some 41, none⟩,
  ⟨.extr (.t 37) 1, some 42, none⟩,
  ⟨.mv (.t 41), some 10, none⟩,
  ⟨.mv (.t 42), some 11, none⟩])
 (.keep [1, 2, 3, 6, 8, 10, 11] (.seq (.reg false [] [⟨.faddr 2 (.t 3), some 43, none⟩,
  ⟨.load false 1 (.t 43), some 44, none⟩,
  ⟨.call J0E [(.t 44)] 1, some 45, none⟩,
  ⟨.faddr 2 (.t 3), some 46, none⟩,
  ⟨.store 1 (.t 46) (.t 45), none, none⟩])
 (.keep [1, 2, 3, 6, 8, 10, 11] (.seq (.tidy [1, 2, 3, 6, 7, 8, 10] (.seq (.reg false [] [⟨.mv (.t 11), some 47, none⟩,
  ⟨.un .not (.t 47), some 48, none⟩])
 (.cond (.t 48)
 (.reg false [] [⟨.faddr 2 (.t 3), some 49, none⟩,
   ⟨.load false 1 (.t 49), some 50, none⟩,
   ⟨.mv (.t 10), some 51, none⟩,
   ⟨.build (J6 default) [], some 52, none⟩,
   ⟨.lits true 3 1 (J6 default) [(0, (.t 52))], some 53, none⟩,
   ⟨.callo J19 [true, false, true] [(.t 50), (.t 51), (.t 53)] 0, some 54, none⟩,
   ⟨.faddr 2 (.t 3), some 55, none⟩,
   ⟨.store 1 (.t 55) (.t 54), none, none⟩])
 (.skip))))
 (.keep [1, 2, 3, 6, 8, 10] Jb0)))))))))))
def J6E : AFn := ⟨3, 66, J1J, [.cell 6 true 3, .tmp 7], false⟩
def J1X : Ji := .seq (.reg false [] [⟨.box 3 (.t 0), some 2, none⟩,
  ⟨.newbox (J6 default), some 4, none⟩,
  ⟨.mv (.c (.p (.b false))), some 5, none⟩])
 (.keep [1, 2, 4] (.seq (.seq (.reg false [] [⟨.load true 3 (.t 2), some 8, none⟩,
  ⟨.call J3w [(.t 8)] 0, some 9, none⟩,
  ⟨.un .not (.t 9), some 10, none⟩,
  ⟨.mv (.t 10), some 11, none⟩,
  ⟨.mv (.t 1), some 12, some (11, false)⟩,
  ⟨.bin .lss .plain (.t 12) (.c (.p (.i .i64 0))), some 13, some (11, false)⟩,
  ⟨.pick (.t 11) (.c (.p (.b true))) (.t 13), some 14, none⟩,
  ⟨.mv (.t 14), some 15, none⟩,
  ⟨.mv (.t 1), some 16, some (15, false)⟩,
  ⟨.faddr 1 (.t 2), some 17, some (15, false)⟩,
  ⟨.load false 1 (.t 17), some 18, some (15, false)⟩,
  ⟨.bin .geq .plain (.t 16) (.t 18), some 19, some (15, false)⟩,
  ⟨.pick (.t 15) (.c (.p (.b true))) (.t 19), some 20, none⟩])
 (.keep [1, 2, 4, 20] (.cond (.t 20)
 (.seq (.reg false [] [⟨.build (J6 default) [], some 21, none⟩,
   ⟨.store 3 (.t 4) (.t 21), none, none⟩,
   ⟨.mv (.c (.p (.b false))), some 5, none⟩])
  (.ret))
 (.skip))))
 (.seq (.reg false [] [⟨.load true 3 (.t 2), some 23, none⟩,
  ⟨.mv (.t 1), some 24, none⟩,
  ⟨.call J5h [(.t 23), (.t 24)] 0, some 25, none⟩,
  ⟨.mv (.t 25), some 22, none⟩,
  ⟨.extr (.t 22) 0, some 26, none⟩,
  ⟨.extr (.t 22) 1, some 27, none⟩,
  ⟨.mv (.t 26), some 6, none⟩,
  ⟨.mv (.t 27), some 7, none⟩])
 (.keep [2, 4, 6, 7] (.seq (.seq (.reg false [] [⟨.mv (.t 7), some 28, none⟩,
  ⟨.un .not (.t 28), some 29, none⟩])
 (.cond (.t 29)
 (.seq (.reg false [] [⟨.build (J6 default) [], some 30, none⟩,
   ⟨.store 3 (.t 4) (.t 30), none, none⟩,
   ⟨.mv (.c (.p (.b false))), some 5, none⟩])
  (.ret))
 (.skip)))
 (.seq (.reg false [] [⟨.faddr 2 (.t 2), some 31, none⟩,
  ⟨.load false 1 (.t 31), some 32, none⟩,
  ⟨.mv (.t 6), some 33, none⟩,
  ⟨.iaddr 3 (.t 32) (.t 33), some 34, none⟩,
  ⟨.load true 3 (.t 34), some 35, none⟩,
  ⟨.store 3 (.t 4) (.t 35), none, none⟩,
  ⟨.mv (.c (.p (.b true))), some 5, none⟩])
 (.ret)))))))
def J6Y : AFn := ⟨2, 36, J1X, [.cell 4 true 3, .tmp 5], false⟩
def JO : Ji := .seq (.seq (.reg false [] [⟨.mv (.t 3), some 25, none⟩,
  ⟨.faddr 2 (.t 1), some 26, none⟩,
  ⟨.load false 1 (.t 26), some 27, none⟩,
  ⟨.len false (.t 27), some 28, none⟩,
  ⟨.bin .lss .plain (.t 25) (.t 28), some 29, none⟩])
 (.keep [1, 3, 29] (.cond (.t 29)
 (.skip)
 (.exit 0))))
 (.seq (.block 1 (.seq (.reg false [] [⟨.faddr 2 (.t 1), some 32, none⟩,
  ⟨.load false 1 (.t 32), some 33, none⟩,
  ⟨.mv (.t 3), some 34, none⟩,
  ⟨.iaddr 3 (.t 33) (.t 34), some 35, none⟩,
  ⟨.load true 3 (.t 35), some 36, none⟩,
  ⟨.newbox (J6 default), some 4, none⟩,
  ⟨.store 3 (.t 4) (.t 36), none, none⟩])
 (.keep [1, 3, 4] (.seq (.seq (.reg true [] [⟨.faddr 0 (.t 4), some 37, none⟩,
  ⟨.load false 1 (.t 37), some 38, none⟩,
  ⟨.bin .lss .plain (.t 38) (.c (.p (.i .i64 0))), some 39, none⟩,
  ⟨.mv (.t 39), some 40, none⟩,
  ⟨.faddr 0 (.t 4), some 41, some (40, false)⟩,
  ⟨.load false 1 (.t 41), some 42, some (40, false)⟩,
  ⟨.faddr 1 (.t 1), some 43, some (40, false)⟩,
  ⟨.load false 1 (.t 43), some 44, some (40, false)⟩,
  ⟨.bin .geq .plain (.t 42) (.t 44), some 45, some (40, false)⟩,
  ⟨.pick (.t 40) (.c (.p (.b true))) (.t 45), some 46, none⟩,
  ⟨.mv (.t 46), some 47, none⟩,
  ⟨.mv (.t 3), some 48, some (47, false)⟩,
  ⟨.bin .gtr .plain (.t 48) (.c (.p (.i .i64 0))), some 49, some (47, false)⟩,
  ⟨.mv (.t 49), some 50, some (47, false)⟩,
  ⟨.faddr 2 (.t 1), some 51, some (50, true)⟩,
  ⟨.load false 1 (.t 51), some 52, some (50, true)⟩,
  ⟨.mv (.t 3), some 53, some (50, true)⟩,
  ⟨.bin .sub .plain (.t 53) (.c (.p (.i .i64 1))), some 54, some (50, true)⟩,
  ⟨.iaddr 3 (.t 52) (.t 54), some 55, some (50, true)⟩,
  ⟨.faddr 0 (.t 55), some 56, some (50, true)⟩,
  ⟨.load false 1 (.t 56), some 57, some (50, true)⟩,
  ⟨.faddr 0 (.t 4), some 58, some (50, true)⟩,
  ⟨.load false 1 (.t 58), some 59, some (50, true)⟩,
  ⟨.bin .geq .plain (.t 57) (.t 59), some 60, some (50, true)⟩,
  ⟨.pick (.t 50) (.t 60) (.c (.p (.b false))), some 61, some (47, false)⟩,
  ⟨.pick (.t 47) (.c (.p (.b true))) (.t 61), some 62, none⟩])
 (.keep [1, 3, 4, 62] (.cond (.t 62)
 (.seq (.reg false [] [⟨.mv (.c (.p (.b false))), some 2, none⟩])
  (.ret))
 (.skip))))
 (.seq (.reg false [] [⟨.faddr 2 (.t 4), some 64, none⟩,
  ⟨.load false 1 (.t 64), some 65, none⟩,
  ⟨.faddr 0 (.t 4), some 66, none⟩,
  ⟨.load false 1 (.t 66), some 67, none⟩,
  ⟨.call J3z [(.t 65), (.t 67)] 0, some 68, none⟩,
  ⟨.mv (.t 68), some 63, none⟩,
  ⟨.extr (.t 63) 0, some 69, none⟩,
  ⟨.extr (.t 63) 1, some 70, none⟩,
  ⟨.newbox (J4 default), some 5, none⟩,
  ⟨.store 34 (.t 5) (.t 69), none, none⟩,
  ⟨.mv (.t 70), some 6, none⟩])
 (.keep [1, 3, 4, 5, 6] (.seq (.reg false [] [⟨.mv (.t 6), some 71, none⟩,
  ⟨.bin .neq .plain (.t 71) (.c (.p (.i .i64 0))), some 72, none⟩,
  ⟨.mv (.t 72), some 73, none⟩,
  ⟨.faddr 1 (.t 5), some 74, some (73, false)⟩,
  ⟨.load false 1 (.t 74), some 75, some (73, false)⟩,
  ⟨.faddr 1 (.t 4), some 76, some (73, false)⟩,
  ⟨.load false 1 (.t 76), some 77, some (73, false)⟩,
  ⟨.bin .neq .plain (.t 75) (.t 77), some 78, some (73, false)⟩,
  ⟨.pick (.t 73) (.c (.p (.b true))) (.t 78), some 79, none⟩])
 (.keep [1, 3, 79] (.cond (.t 79)
 (.seq (.reg false [] [⟨.mv (.c (.p (.b false))), some 2, none⟩])
  (.ret))
 (.skip))))))))))
 (.reg false [] [⟨.mv (.t 3), some 30, none⟩,
  ⟨.bin .add .plain (.t 30) (.c (.p (.i .i64 1))), some 31, none⟩,
  ⟨.mv (.t 31), some 3, none⟩]))
def J45 : Ji := .seq (.reg false [] [⟨.mv (.c (.p (.b true))), some 2, none⟩])
 (.ret)
def J1U : Ji := .seq (.reg false [] [⟨.box 3 (.t 0), some 1, none⟩,
  ⟨.mv (.c (.p (.b false))), some 2, none⟩])
 (.seq (.seq (.reg false [] [⟨.faddr 0 (.t 1), some 7, none⟩,
  ⟨.load false 1 (.t 7), some 8, none⟩,
  ⟨.bin .lss .plain (.t 8) (.c (.p (.i .i64 1))), some 9, none⟩,
  ⟨.mv (.t 9), some 10, none⟩,
  ⟨.faddr 0 (.t 1), some 11, some (10, false)⟩,
  ⟨.load false 1 (.t 11), some 12, some (10, false)⟩,
  ⟨.bin .gtr .plain (.t 12) (.c (.p (.i .i64 1073741824))), some 13, some (10, false)⟩,
  ⟨.pick (.t 10) (.c (.p (.b true))) (.t 13), some 14, none⟩,
  ⟨.mv (.t 14), some 15, none⟩,
  ⟨.faddr 1 (.t 1), some 16, some (15, false)⟩,
  ⟨.load false 1 (.t 16), some 17, some (15, false)⟩,
  ⟨.bin .lss .plain (.t 17) (.c (.p (.i .i64 1))), some 18, some (15, false)⟩,
  ⟨.pick (.t 15) (.c (.p (.b true))) (.t 18), some 19, none⟩,
  ⟨.mv (.t 19), some 20, none⟩,
  ⟨.faddr 1 (.t 1), some 21, some (20, false)⟩,
  ⟨.load false 1 (.t 21), some 22, some (20, false)⟩,
  ⟨.bin .gtr .plain (.t 22) (.c (.p (.i .i64 64))), some 23, some (20, false)⟩,
  ⟨.pick (.t 20) (.c (.p (.b true))) (.t 23), some 24, none⟩])
 (.keep [1, 24] (.cond (.t 24)
 (.seq (.reg false [] [⟨.mv (.c (.p (.b false))), some 2, none⟩])
  (.ret))
 (.skip))))
 (.seq (.tidy [2] (.seq (.reg false [] [⟨.mv (.c (.p (.i .i64 0))), some 3, none⟩])
 (.block 0 (.loop [1, 3] JO))))
 (.keep [] J45)))
def J2g : AFn := ⟨1, 80, J1U, [.tmp 2], false⟩
def J7t : Ji := .seq (.reg false [] [⟨.faddr 2 (.t 3), some 72, none⟩,
  ⟨.load false 1 (.t 72), some 73, none⟩,
  ⟨.mv (.t 13), some 74, none⟩,
  ⟨.iaddr 3 (.t 73) (.t 74), some 75, none⟩,
  ⟨.faddr 0 (.t 75), some 76, none⟩,
  ⟨.load false 1 (.t 76), some 77, none⟩,
  ⟨.mv (.t 1), some 78, none⟩,
  ⟨.bin .neq .plain (.t 77) (.t 78), some 79, none⟩])
 (.keep [1, 3, 6, 10, 11, 12, 13, 79] (.cond (.t 79)
 (.reg true [(1, 7)] [⟨.faddr 2 (.t 11), some 80, none⟩,
   ⟨.load false 1 (.t 80), some 81, none⟩,
   ⟨.faddr 2 (.t 3), some 82, none⟩,
   ⟨.load false 1 (.t 82), some 83, none⟩,
   ⟨.mv (.t 13), some 84, none⟩,
   ⟨.iaddr 3 (.t 83) (.t 84), some 85, none⟩,
   ⟨.load true 3 (.t 85), some 86, none⟩,
   ⟨.lits false 3 1 (J6 default) [(0, (.t 86))], some 87, none⟩,
   ⟨.app 3 32 (J6 default) (.t 81) (.t 87), some 88, none⟩,
   ⟨.faddr 2 (.t 11), some 89, none⟩,
   ⟨.store 1 (.t 89) (.t 88), none, none⟩])
 (.skip)))
def J9b : Ji := .reg false [] [⟨.mv (.t 13), some 52, none⟩,
  ⟨.bin .add .plain (.t 52) (.c (.p (.i .i64 1))), some 53, none⟩,
  ⟨.mv (.t 53), some 13, none⟩]
def J1j : Ji := .seq (.seq (.reg false [] [⟨.mv (.t 13), some 47, none⟩,
  ⟨.faddr 2 (.t 3), some 48, none⟩,
  ⟨.load false 1 (.t 48), some 49, none⟩,
  ⟨.len false (.t 49), some 50, none⟩,
  ⟨.bin .lss .plain (.t 47) (.t 50), some 51, none⟩])
 (.keep [1, 3, 6, 10, 11, 12, 13, 51] (.cond (.t 51)
 (.skip)
 (.exit 0))))
 (.seq (.block 1 (.seq (.seq (.reg false [] [⟨.mv (.t 12), some 54, none⟩,
  ⟨.un .not (.t 54), some 55, none⟩,
  ⟨.mv (.t 55), some 56, none⟩,
  ⟨.faddr 2 (.t 3), some 57, some (56, true)⟩,
  ⟨.load false 1 (.t 57), some 58, some (56, true)⟩,
  ⟨.mv (.t 13), some 59, some (56, true)⟩,
  ⟨.iaddr 3 (.t 58) (.t 59), some 60, some (56, true)⟩,
  ⟨.faddr 0 (.t 60), some 61, some (56, true)⟩,
  ⟨.load false 1 (.t 61), some 62, some (56, true)⟩,
  ⟨.mv (.t 1), some 63, some (56, true)⟩,
  ⟨.bin .geq .plain (.t 62) (.t 63), some 64, some (56, true)⟩,
  ⟨.pick (.t 56) (.t 64) (.c (.p (.b false))), some 65, none⟩])
 (.keep [1, 3, 6, 10, 11, 12, 13, 65] (.cond (.t 65)
 (.reg false [] [⟨.faddr 2 (.t 11), some 66, none⟩,
   ⟨.load false 1 (.t 66), some 67, none⟩,
   ⟨.load true 3 (.t 10), some 68, none⟩,
   ⟨.lits false 3 1 (J6 default) [(0, (.t 68))], some 69, none⟩,
   ⟨.app 3 32 (J6 default) (.t 67) (.t 69), some 70, none⟩,
   ⟨.faddr 2 (.t 11), some 71, none⟩,
   ⟨.store 1 (.t 71) (.t 70), none, none⟩,
   ⟨.mv (.c (.p (.b true))), some 12, none⟩])
 (.skip))))
 (.keep [1, 3, 6, 10, 11, 12, 13] J7t)))
 (.keep [1, 3, 6, 10, 11, 12, 13] J9b))
def JaT : Ji := .seq (.reg false [] [⟨.load true 3 (.t 11), some 98, none⟩,
  ⟨.store 3 (.t 6) (.t 98), none, none⟩,
  ⟨.mv (.c (.p (.i .i64 0))), some 7, none⟩])
 (.ret)
def J2L : Ji := .seq (.seq (.reg false [] [⟨.mv (.t 12), some 90, none⟩,
  ⟨.un .not (.t 90), some 91, none⟩])
 (.cond (.t 91)
 (.reg false [] [⟨.faddr 2 (.t 11), some 92, none⟩,
   ⟨.load false 1 (.t 92), some 93, none⟩,
   ⟨.load true 3 (.t 10), some 94, none⟩,
   ⟨.lits false 3 1 (J6 default) [(0, (.t 94))], some 95, none⟩,
   ⟨.app 3 32 (J6 default) (.t 93) (.t 95), some 96, none⟩,
   ⟨.faddr 2 (.t 11), some 97, none⟩,
   ⟨.store 1 (.t 97) (.t 96), none, none⟩])
 (.skip)))
 (.keep [6, 11] JaT)
def J2q : Ji := .seq (.reg false [] [⟨.box 3 (.t 0), some 3, none⟩,
  ⟨.newboxo (J7 default) [(2, 3)], some 6, none⟩,
  ⟨.mv (.c (.p (.i .i64 0))), some 7, none⟩])
 (.keep [1, 2, 3, 6] (.seq (.seq (.reg false [] [⟨.load true 3 (.t 3), some 14, none⟩,
  ⟨.call J5T [(.t 14)] 0, some 15, none⟩,
  ⟨.un .not (.t 15), some 16, none⟩])
 (.keep [1, 2, 3, 6, 16] (.cond (.t 16)
 (.seq (.reg false [] [⟨.buildo (J7 default) [] [(2, 3)], some 17, none⟩,
   ⟨.store 3 (.t 6) (.t 17), none, none⟩,
   ⟨.mv (.c (.p (.i .i64 43))), some 7, none⟩])
  (.ret))
 (.skip))))
 (.seq (.seq (.reg false [] [⟨.mv (.t 1), some 18, none⟩,
  ⟨.bin .lss .plain (.t 18) (.c (.p (.i .i64 0))), some 19, none⟩,
  ⟨.mv (.t 19), some 20, none⟩,
  ⟨.mv (.t 1), some 21, some (20, false)⟩,
  ⟨.faddr 1 (.t 3), some 22, some (20, false)⟩,
  ⟨.load false 1 (.t 22), some 23, some (20, false)⟩,
  ⟨.bin .geq .plain (.t 21) (.t 23), some 24, some (20, false)⟩,
  ⟨.pick (.t 20) (.c (.p (.b true))) (.t 24), some 25, none⟩])
 (.keep [1, 2, 3, 6, 25] (.cond (.t 25)
 (.seq (.reg false [] [⟨.buildo (J7 default) [] [(2, 3)], some 26, none⟩,
   ⟨.store 3 (.t 6) (.t 26), none, none⟩,
   ⟨.mv (.c (.p (.i .i64 1))), some 7, none⟩])
  (.ret))
 (.skip))))
 (.seq (.reg false [] [⟨.mv (.t 2), some 28, none⟩,
  ⟨.mv (.t 1), some 29, none⟩,
  ⟨.call J3z [(.t 28), (.t 29)] 0, some 30, none⟩,
  ⟨.mv (.t 30), some 27, none⟩,
  ⟨.extr (.t 27) 0, some 31, none⟩,
  ⟨.extr (.t 27) 1, some 32, none⟩,
  ⟨.newbox (J4 default), some 8, none⟩,
  ⟨.store 34 (.t 8) (.t 31), none, none⟩,
  ⟨.mv (.t 32), some 9, none⟩])
 (.keep [1, 2, 3, 6, 8, 9] (.seq (.seq (.reg false [] [⟨.mv (.t 9), some 33, none⟩,
  ⟨.bin .neq .plain (.t 33) (.c (.p (.i .i64 0))), some 34, none⟩])
 (.cond (.t 34)
 (.seq (.reg false [] [⟨.buildo (J7 default) [] [(2, 3)], some 35, none⟩,
   ⟨.mv (.t 9), some 36, none⟩,
   ⟨.store 3 (.t 6) (.t 35), none, none⟩,
   ⟨.mv (.t 36), some 7, none⟩])
  (.ret))
 (.skip)))
 (.seq (.reg false [] [⟨.mv (.t 1), some 37, none⟩,
  ⟨.faddr 1 (.t 8), some 38, none⟩,
  ⟨.load false 1 (.t 38), some 39, none⟩,
  ⟨.mv (.t 2), some 40, none⟩,
  ⟨.build (J6 default) [(0, 1, (.t 37)), (1, 1, (.t 39)), (2, 1, (.t 40))], some 41, none⟩,
  ⟨.newbox (J6 default), some 10, none⟩,
  ⟨.store 3 (.t 10) (.t 41), none, none⟩])
 (.keep [1, 3, 6, 10] (.seq (.reg false [] [⟨.faddr 0 (.t 3), some 42, none⟩,
  ⟨.load false 1 (.t 42), some 43, none⟩,
  ⟨.faddr 1 (.t 3), some 44, none⟩,
  ⟨.load false 1 (.t 44), some 45, none⟩,
  ⟨.buildo (J7 default) [(0, 1, (.t 43)), (1, 1, (.t 45))] [(2, 3)], some 46, none⟩,
  ⟨.newboxo (J7 default) [(2, 3)], some 11, none⟩,
  ⟨.store 3 (.t 11) (.t 46), none, none⟩])
 (.keep [1, 3, 6, 10, 11] (.seq (.reg false [] [⟨.mv (.c (.p (.b false))), some 12, none⟩])
 (.seq (.seq (.reg false [] [⟨.mv (.c (.p (.i .i64 0))), some 13, none⟩])
 (.block 0 (.loop [1, 3, 6, 10, 11, 12, 13] J1j)))
 (.keep [6, 10, 11, 12] J2L)))))))))))))
def J24 : AFn := ⟨3, 99, J2q, [.cell 6 true 3, .tmp 7], false⟩
def J3o : Ji := .seq (.reg false [] [⟨.mv (.c (.p (.b false))), some 0, none⟩])
 (.seq (.reg false [] [⟨.build (J7 default) [(0, 1, (.c (.p (.i .i64 1)))), (1, 1, (.c (.p (.i .i64 1))))], some 4, none⟩,
  ⟨.call J1u [(.t 4)] 0, some 5, none⟩,
  ⟨.mv (.t 5), some 3, none⟩,
  ⟨.extr (.t 3) 0, some 6, none⟩,
  ⟨.extr (.t 3) 1, some 7, none⟩,
  ⟨.mv (.t 6), some 1, none⟩,
  ⟨.mv (.t 7), some 2, none⟩])
 (.keep [1, 2] (.seq (.reg false [] [⟨.mv (.t 2), some 8, none⟩,
  ⟨.bin .eql .plain (.t 8) (.c (.p (.i .i64 0))), some 9, none⟩,
  ⟨.mv (.t 9), some 10, none⟩,
  ⟨.mv (.t 1), some 11, some (10, true)⟩,
  ⟨.len true (.t 11), some 12, some (10, true)⟩,
  ⟨.bin .eql .plain (.t 12) (.c (.p (.i .i64 20))), some 13, some (10, true)⟩,
  ⟨.pick (.t 10) (.t 13) (.c (.p (.b false))), some 14, none⟩,
  ⟨.mv (.t 14), some 15, none⟩,
  ⟨.build (J7 default) [(0, 1, (.c (.p (.i .i64 1)))), (1, 1, (.c (.p (.i .i64 1))))], some 16, some (15, true)⟩,
  ⟨.call J3w [(.t 16)] 0, some 17, some (15, true)⟩,
  ⟨.pick (.t 15) (.t 17) (.c (.p (.b false))), some 18, none⟩,
  ⟨.mv (.t 18), some 0, none⟩])
 (.ret))))
def J64 : AFn := ⟨0, 19, J3o, [.tmp 0], false⟩
def Jat : Ji := .reg false [] [⟨.mv (.t 4), some 18, none⟩,
  ⟨.bin .add .plain (.t 18) (.c (.p (.i .i64 1))), some 19, none⟩,
  ⟨.mv (.t 19), some 4, none⟩]
def J1g : Ji := .seq (.seq (.reg false [] [⟨.mv (.t 4), some 14, none⟩,
  ⟨.faddr 1 (.t 3), some 15, none⟩,
  ⟨.load false 1 (.t 15), some 16, none⟩,
  ⟨.bin .lss .plain (.t 14) (.t 16), some 17, none⟩])
 (.keep [0, 2, 3, 4, 17] (.cond (.t 17)
 (.skip)
 (.exit 0))))
 (.seq (.tidy [0, 2, 3, 4] (.block 1 (.seq (.seq (.reg false [] [⟨.mv (.t 0), some 20, none⟩,
  ⟨.call Jh [(.t 20), (.c (.p (.i .i64 4)))] 0, some 21, none⟩,
  ⟨.bin .eql .plain (.t 21) (.c (.p (.i .i64 0))), some 22, none⟩])
 (.keep [0, 2, 3, 4, 22] (.cond (.t 22)
 (.exit 1)
 (.skip))))
 (.seq (.reg true [(0, 4), (0, 9), (4, 9), (5, 9)] [⟨.load true 3 (.t 3), some 24, none⟩,
  ⟨.mv (.t 4), some 25, none⟩,
  ⟨.mv (.t 0), some 26, none⟩,
  ⟨.mv (.t 4), some 27, none⟩,
  ⟨.call J5L [(.t 26), (.t 27)] 0, some 28, none⟩,
  ⟨.call J6F [(.t 24), (.t 25), (.t 28)] 0, some 29, none⟩,
  ⟨.mv (.t 29), some 23, none⟩,
  ⟨.extr (.t 23) 0, some 30, none⟩,
  ⟨.extr (.t 23) 1, some 31, none⟩,
  ⟨.newbox (J7 default), some 5, none⟩,
  ⟨.store 3 (.t 5) (.t 30), none, none⟩,
  ⟨.mv (.t 31), some 6, none⟩])
 (.keep [0, 2, 3, 4, 5, 6] (.seq (.reg false [] [⟨.mv (.t 6), some 32, none⟩,
  ⟨.bin .eql .plain (.t 32) (.c (.p (.i .i64 0))), some 33, none⟩])
 (.cond (.t 33)
 (.reg false [] [⟨.load true 3 (.t 5), some 34, none⟩,
   ⟨.store 3 (.t 3) (.t 34), none, none⟩])
 (.skip))))))))
 (.keep [0, 2, 3, 4] Jat))
def J3E : Ji := .seq (.reg false [] [⟨.load true 3 (.t 3), some 35, none⟩,
  ⟨.store 3 (.t 2) (.t 35), none, none⟩])
 (.ret)
def J8n : Ji := .seq (.reg false [] [⟨.newbox (J7 default), some 2, none⟩])
 (.seq (.reg false [] [⟨.mv (.t 0), some 7, none⟩,
  ⟨.call Jh [(.t 7), (.c (.p (.i .i64 5)))] 0, some 8, none⟩,
  ⟨.bin .add .plain (.c (.p (.i .i64 1))) (.t 8), some 9, none⟩,
  ⟨.mv (.t 0), some 10, none⟩,
  ⟨.call Jh [(.t 10), (.c (.p (.i .i64 6)))] 0, some 11, none⟩,
  ⟨.bin .add .plain (.c (.p (.i .i64 1))) (.t 11), some 12, none⟩,
  ⟨.build (J7 default) [(0, 1, (.t 9)), (1, 1, (.t 12))], some 13, none⟩,
  ⟨.newbox (J7 default), some 3, none⟩,
  ⟨.store 3 (.t 3) (.t 13), none, none⟩])
 (.keep [0, 2, 3] (.seq (.tidy [2, 3] (.seq (.reg false [] [⟨.mv (.c (.p (.i .i64 0))), some 4, none⟩])
 (.block 0 (.loop [0, 2, 3, 4] J1g))))
 (.keep [2, 3] J3E))))
def J2i : AFn := ⟨1, 36, J8n, [.cell 2 true 3], false⟩
def J01 : Ji := .seq (.seq (.reg false [] [⟨.mv (.t 21), some 121, none⟩,
  ⟨.faddr 1 (.t 4), some 122, none⟩,
  ⟨.load false 1 (.t 122), some 123, none⟩,
  ⟨.bin .lss .plain (.t 121) (.t 123), some 124, none⟩])
 (.keep [4, 5, 6, 13, 21, 124] (.cond (.t 124)
 (.skip)
 (.exit 0))))
 (.seq (.block 1 (.seq (.reg false [] [⟨.load true 3 (.t 4), some 128, none⟩,
  ⟨.mv (.t 21), some 129, none⟩,
  ⟨.call J4Q [(.t 128), (.t 129)] 0, some 130, none⟩,
  ⟨.mv (.t 130), some 127, none⟩,
  ⟨.extr (.t 127) 0, some 131, none⟩,
  ⟨.extr (.t 127) 1, some 132, none⟩,
  ⟨.newbox (J6 default), some 22, none⟩,
  ⟨.store 3 (.t 22) (.t 131), none, none⟩,
  ⟨.mv (.t 132), some 23, none⟩])
 (.keep [4, 5, 6, 13, 21, 22, 23] (.seq (.reg false [] [⟨.load true 3 (.t 13), some 134, none⟩,
  ⟨.mv (.t 21), some 135, none⟩,
  ⟨.call J4Q [(.t 134), (.t 135)] 0, some 136, none⟩,
  ⟨.mv (.t 136), some 133, none⟩,
  ⟨.extr (.t 133) 0, some 137, none⟩,
  ⟨.extr (.t 133) 1, some 138, none⟩,
  ⟨.newbox (J6 default), some 24, none⟩,
  ⟨.store 3 (.t 24) (.t 137), none, none⟩,
  ⟨.mv (.t 138), some 25, none⟩])
 (.keep [4, 5, 6, 13, 21, 22, 23, 24, 25] (.seq (.reg false [] [⟨.mv (.t 21), some 139, none⟩,
  ⟨.mv (.t 5), some 140, none⟩,
  ⟨.bin .neq .plain (.t 139) (.t 140), some 141, none⟩,
  ⟨.mv (.t 141), some 142, none⟩,
  ⟨.mv (.t 21), some 143, some (142, true)⟩,
  ⟨.mv (.t 6), some 144, some (142, true)⟩,
  ⟨.bin .neq .plain (.t 143) (.t 144), some 145, some (142, true)⟩,
  ⟨.pick (.t 142) (.t 145) (.c (.p (.b false))), some 146, none⟩,
  ⟨.mv (.t 146), some 147, none⟩,
  ⟨.load true 3 (.t 22), some 148, some (147, true)⟩,
  ⟨.load true 3 (.t 24), some 149, some (147, true)⟩,
  ⟨.bin .neq (.flat [(.i .i64), (.i .i64), .s]) (.t 148) (.t 149), some 150, some (147, true)⟩,
  ⟨.mv (.t 150), some 151, some (147, true)⟩,
  ⟨.mv (.t 23), some 152, some (151, false)⟩,
  ⟨.mv (.t 25), some 153, some (151, false)⟩,
  ⟨.bin .neq .bool (.t 152) (.t 153), some 154, some (151, false)⟩,
  ⟨.pick (.t 151) (.c (.p (.b true))) (.t 154), some 155, some (147, true)⟩,
  ⟨.pick (.t 147) (.t 155) (.c (.p (.b false))), some 156, none⟩])
 (.keep [4, 5, 6, 13, 21, 156] (.cond (.t 156)
 (.seq (.reg false [] [⟨.mv (.c (.p (.b false))), some 2, none⟩])
  (.ret))
 (.skip)))))))))
 (.reg false [] [⟨.mv (.t 21), some 125, none⟩,
  ⟨.bin .add .plain (.t 125) (.c (.p (.i .i64 1))), some 126, none⟩,
  ⟨.mv (.t 126), some 21, none⟩]))
def J2v : Ji := .seq (.reg false [] [⟨.load true 3 (.t 13), some 157, none⟩,
  ⟨.call J3w [(.t 157)] 0, some 158, none⟩,
  ⟨.mv (.t 158), some 2, none⟩])
 (.ret)
def JH : Ji := .seq (.reg false [] [⟨.mv (.c (.p (.b false))), some 2, none⟩])
 (.seq (.seq (.reg false [] [⟨.call J61 [] 0, some 26, none⟩,
  ⟨.un .not (.t 26), some 27, none⟩])
 (.cond (.t 27)
 (.seq (.reg false [] [⟨.mv (.c (.p (.b false))), some 2, none⟩])
  (.ret))
 (.skip)))
 (.seq (.reg false [] [⟨.mv (.t 0), some 28, none⟩,
  ⟨.call J8w [(.t 28), (.c (.p (.i .i64 400)))] 1, some 29, none⟩,
  ⟨.mv (.t 29), some 3, none⟩])
 (.keep [3] (.seq (.reg false [] [⟨.mv (.t 3), some 30, none⟩,
  ⟨.call J6V [(.t 30)] 0, some 31, none⟩,
  ⟨.newbox (J7 default), some 4, none⟩,
  ⟨.store 3 (.t 4) (.t 31), none, none⟩])
 (.keep [3, 4] (.seq (.reg true [(3, 6)] [⟨.mv (.t 3), some 32, none⟩,
  ⟨.faddr 1 (.t 4), some 33, none⟩,
  ⟨.load false 1 (.t 33), some 34, none⟩,
  ⟨.call Jh [(.t 32), (.t 34)] 0, some 35, none⟩,
  ⟨.mv (.t 3), some 36, none⟩,
  ⟨.faddr 1 (.t 4), some 37, none⟩,
  ⟨.load false 1 (.t 37), some 38, none⟩,
  ⟨.call Jh [(.t 36), (.t 38)] 0, some 39, none⟩,
  ⟨.mv (.t 35), some 5, none⟩,
  ⟨.mv (.t 39), some 6, none⟩])
 (.keep [3, 4, 5, 6] (.seq (.reg false [] [⟨.mv (.t 3), some 41, none⟩,
  ⟨.mv (.t 5), some 42, none⟩,
  ⟨.call J1r [(.t 41), (.t 42)] 0, some 43, none⟩,
  ⟨.call J2Q [(.t 43)] 0, some 44, none⟩,
  ⟨.mv (.t 44), some 40, none⟩,
  ⟨.extr (.t 40) 0, some 45, none⟩,
  ⟨.extr (.t 40) 1, some 46, none⟩,
  ⟨.mv (.t 45), some 7, none⟩,
  ⟨.mv (.t 46), some 8, none⟩])
 (.keep [3, 4, 5, 6, 7] (.seq (.reg false [] [⟨.mv (.t 3), some 48, none⟩,
  ⟨.mv (.t 6), some 49, none⟩,
  ⟨.call J1r [(.t 48), (.t 49)] 0, some 50, none⟩,
  ⟨.call J2Q [(.t 50)] 0, some 51, none⟩,
  ⟨.mv (.t 51), some 47, none⟩,
  ⟨.extr (.t 47) 0, some 52, none⟩,
  ⟨.extr (.t 47) 1, some 53, none⟩,
  ⟨.mv (.t 52), some 9, none⟩,
  ⟨.mv (.t 53), some 10, none⟩])
 (.keep [4, 5, 6, 7, 9] (.seq (.reg false [] [⟨.load true 3 (.t 4), some 55, none⟩,
  ⟨.mv (.t 5), some 56, none⟩,
  ⟨.mv (.t 7), some 57, none⟩,
  ⟨.call J4N [(.t 55), (.t 56), (.t 57)] 0, some 58, none⟩,
  ⟨.mv (.t 58), some 54, none⟩,
  ⟨.extr (.t 54) 0, some 59, none⟩,
  ⟨.extr (.t 54) 1, some 60, none⟩,
  ⟨.newbox (J7 default), some 11, none⟩,
  ⟨.store 3 (.t 11) (.t 59), none, none⟩,
  ⟨.mv (.t 60), some 12, none⟩])
 (.keep [4, 5, 6, 7, 9, 11, 12] (.seq (.reg false [] [⟨.load true 3 (.t 11), some 62, none⟩,
  ⟨.mv (.t 6), some 63, none⟩,
  ⟨.mv (.t 9), some 64, none⟩,
  ⟨.call J4N [(.t 62), (.t 63), (.t 64)] 0, some 65, none⟩,
  ⟨.mv (.t 65), some 61, none⟩,
  ⟨.extr (.t 61) 0, some 66, none⟩,
  ⟨.extr (.t 61) 1, some 67, none⟩,
  ⟨.newbox (J7 default), some 13, none⟩,
  ⟨.store 3 (.t 13) (.t 66), none, none⟩,
  ⟨.mv (.t 67), some 14, none⟩])
 (.keep [4, 5, 6, 7, 9, 12, 13, 14] (.seq (.reg false [] [⟨.load true 3 (.t 4), some 69, none⟩,
  ⟨.mv (.t 6), some 70, none⟩,
  ⟨.mv (.t 9), some 71, none⟩,
  ⟨.call J4N [(.t 69), (.t 70), (.t 71)] 0, some 72, none⟩,
  ⟨.mv (.t 72), some 68, none⟩,
  ⟨.extr (.t 68) 0, some 73, none⟩,
  ⟨.extr (.t 68) 1, some 74, none⟩,
  ⟨.newbox (J7 default), some 15, none⟩,
  ⟨.store 3 (.t 15) (.t 73), none, none⟩,
  ⟨.mv (.t 74), some 16, none⟩])
 (.keep [4, 5, 6, 7, 9, 12, 13, 14, 15, 16] (.seq (.reg false [] [⟨.load true 3 (.t 15), some 76, none⟩,
  ⟨.mv (.t 5), some 77, none⟩,
  ⟨.mv (.t 7), some 78, none⟩,
  ⟨.call J4N [(.t 76), (.t 77), (.t 78)] 0, some 79, none⟩,
  ⟨.mv (.t 79), some 75, none⟩,
  ⟨.extr (.t 75) 0, some 80, none⟩,
  ⟨.extr (.t 75) 1, some 81, none⟩,
  ⟨.newbox (J7 default), some 17, none⟩,
  ⟨.store 3 (.t 17) (.t 80), none, none⟩,
  ⟨.mv (.t 81), some 18, none⟩])
 (.keep [4, 5, 6, 9, 12, 13, 14, 16, 17, 18] (.seq (.seq (.reg false [] [⟨.mv (.t 12), some 82, none⟩,
  ⟨.bin .neq .plain (.t 82) (.c (.p (.i .i64 0))), some 83, none⟩,
  ⟨.mv (.t 83), some 84, none⟩,
  ⟨.mv (.t 14), some 85, some (84, false)⟩,
  ⟨.bin .neq .plain (.t 85) (.c (.p (.i .i64 0))), some 86, some (84, false)⟩,
  ⟨.pick (.t 84) (.c (.p (.b true))) (.t 86), some 87, none⟩,
  ⟨.mv (.t 87), some 88, none⟩,
  ⟨.mv (.t 16), some 89, some (88, false)⟩,
  ⟨.bin .neq .plain (.t 89) (.c (.p (.i .i64 0))), some 90, some (88, false)⟩,
  ⟨.pick (.t 88) (.c (.p (.b true))) (.t 90), some 91, none⟩,
  ⟨.mv (.t 91), some 92, none⟩,
  ⟨.mv (.t 18), some 93, some (92, false)⟩,
  ⟨.bin .neq .plain (.t 93) (.c (.p (.i .i64 0))), some 94, some (92, false)⟩,
  ⟨.pick (.t 92) (.c (.p (.b true))) (.t 94), some 95, none⟩])
 (.keep [4, 5, 6, 9, 13, 17, 95] (.cond (.t 95)
 (.seq (.reg false [] [⟨.mv (.c (.p (.b false))), some 2, none⟩])
  (.ret))
 (.skip))))
 (.seq (.reg false [] [⟨.load true 3 (.t 13), some 97, none⟩,
  ⟨.mv (.t 6), some 98, none⟩,
  ⟨.call J4Q [(.t 97), (.t 98)] 0, some 99, none⟩,
  ⟨.mv (.t 99), some 96, none⟩,
  ⟨.extr (.t 96) 0, some 100, none⟩,
  ⟨.extr (.t 96) 1, some 101, none⟩,
  ⟨.newbox (J6 default), some 19, none⟩,
  ⟨.store 3 (.t 19) (.t 100), none, none⟩,
  ⟨.mv (.t 101), some 20, none⟩])
 (.keep [4, 5, 6, 9, 13, 17, 19, 20] (.seq (.seq (.reg false [] [⟨.mv (.t 20), some 102, none⟩,
  ⟨.un .not (.t 102), some 103, none⟩,
  ⟨.mv (.t 103), some 104, none⟩,
  ⟨.faddr 2 (.t 19), some 105, some (104, false)⟩,
  ⟨.load false 1 (.t 105), some 106, some (104, false)⟩,
  ⟨.mv (.t 9), some 107, some (104, false)⟩,
  ⟨.bin .neq .plain (.t 106) (.t 107), some 108, some (104, false)⟩,
  ⟨.pick (.t 104) (.c (.p (.b true))) (.t 108), some 109, none⟩,
  ⟨.mv (.t 109), some 110, none⟩,
  ⟨.mv (.t 5), some 111, some (110, false)⟩,
  ⟨.mv (.t 6), some 112, some (110, false)⟩,
  ⟨.bin .neq .plain (.t 111) (.t 112), some 113, some (110, false)⟩,
  ⟨.mv (.t 113), some 114, some (110, false)⟩,
  ⟨.load true 3 (.t 13), some 115, some (114, true)⟩,
  ⟨.load true 3 (.t 17), some 116, some (114, true)⟩,
  ⟨.call J78 [(.t 115), (.t 116)] 0, some 117, some (114, true)⟩,
  ⟨.un .not (.t 117), some 118, some (114, true)⟩,
  ⟨.pick (.t 114) (.t 118) (.c (.p (.b false))), some 119, some (110, false)⟩,
  ⟨.pick (.t 110) (.c (.p (.b true))) (.t 119), some 120, none⟩])
 (.keep [4, 5, 6, 13, 120] (.cond (.t 120)
 (.seq (.reg false [] [⟨.mv (.c (.p (.b false))), some 2, none⟩])
  (.ret))
 (.skip))))
 (.seq (.tidy [2, 13] (.seq (.reg false [] [⟨.mv (.c (.p (.i .i64 0))), some 21, none⟩])
 (.block 0 (.loop [4, 5, 6, 13, 21] J01))))
 (.keep [13] J2v)))))))))))))))))))))))))
def J15 : AFn := ⟨1, 159, JH, [.tmp 2], false⟩
theorem JoD : J7n.res = [.tmp 4] ∧ J7n.fresh = false := ⟨rfl, rfl⟩
theorem J6N : J4b.res = [.tmp 4] ∧ J4b.fresh = false := ⟨rfl, rfl⟩
theorem Jf4 : J0W.res = [.tmp 2] ∧ J0W.fresh = false := ⟨rfl, rfl⟩
theorem Jg6 : J0N.res = [.tmp 2] ∧ J0N.fresh = false := ⟨rfl, rfl⟩
theorem Jcs : J3h.res = [.tmp 6] ∧ J3h.fresh = false := ⟨rfl, rfl⟩
theorem J7P : J3l.res = [.tmp 6, .tmp 7] ∧ J3l.fresh = false := ⟨rfl, rfl⟩
theorem Jb6 : J48.res = [.cell 2 true 2] ∧ J48.fresh = false := ⟨rfl, rfl⟩
theorem Jl4 : J5X.res = [.tmp 2] ∧ J5X.fresh = false := ⟨rfl, rfl⟩
theorem Jng : J1d.res = [.tmp 2] ∧ J1d.fresh = false := ⟨rfl, rfl⟩
theorem Ja7 : J2C.res = [.tmp 2] ∧ J2C.fresh = false := ⟨rfl, rfl⟩
theorem J3C : JK.res = [.tmp 4] ∧ JK.fresh = false := ⟨rfl, rfl⟩
theorem J83 : J53.res = [.tmp 2] ∧ J53.fresh = false := ⟨rfl, rfl⟩
theorem J7M : J3k.res = [.tmp 6, .tmp 7] ∧ J3k.fresh = false := ⟨rfl, rfl⟩
theorem Jny : J7E.res = [.cell 2 true 34] ∧ J7E.fresh = false := ⟨rfl, rfl⟩
theorem JeA : J73.res = [.tmp 2] ∧ J73.fresh = false := ⟨rfl, rfl⟩
theorem Jor : J8A.res = [.cell 2 true 34] ∧ J8A.fresh = false := ⟨rfl, rfl⟩
theorem JeY : J00.res = [.cell 0 true 16] ∧ J00.fresh = false := ⟨rfl, rfl⟩
theorem Jh7 : J4J.res = [.tmp 4] ∧ J4J.fresh = false := ⟨rfl, rfl⟩
theorem J8N : J4f.res = [.tmp 2] ∧ J4f.fresh = false := ⟨rfl, rfl⟩
theorem JkQ : J67.res = [.tmp 6] ∧ J67.fresh = false := ⟨rfl, rfl⟩
theorem Jgs : J3j.res = [.cell 2 true 34, .tmp 3] ∧ J3j.fresh = false := ⟨rfl, rfl⟩
theorem JfV : J0O.res = [.cell 4 true 34] ∧ J0O.fresh = false := ⟨rfl, rfl⟩
theorem JkR : J6i.res = [.tmp 0] ∧ J6i.fresh = false := ⟨rfl, rfl⟩
theorem Jm5 : J6W.res = [.tmp 0] ∧ J6W.fresh = false := ⟨rfl, rfl⟩
theorem JbN : J6Z.res = [.tmp 4] ∧ J6Z.fresh = false := ⟨rfl, rfl⟩
theorem JaQ : J6f.res = [.tmp 2] ∧ J6f.fresh = false := ⟨rfl, rfl⟩
theorem Jev : J2t.res = [] ∧ J2t.fresh = false := ⟨rfl, rfl⟩
theorem JmW : J3i.res = [.tmp 2] ∧ J3i.fresh = false := ⟨rfl, rfl⟩
theorem J2N : Jp.res = [.tmp 6, .tmp 7] ∧ Jp.fresh = false := ⟨rfl, rfl⟩
theorem JkB : J6k.res = [.tmp 4, .tmp 5] ∧ J6k.fresh = false := ⟨rfl, rfl⟩
theorem Jb3 : J2j.res = [.tmp 2] ∧ J2j.fresh = false := ⟨rfl, rfl⟩
theorem JaZ : J2l.res = [.tmp 2, .tmp 3] ∧ J2l.fresh = false := ⟨rfl, rfl⟩
theorem JdT : J6a.res = [.tmp 2] ∧ J6a.fresh = false := ⟨rfl, rfl⟩
theorem JaV : J62.res = [.tmp 2] ∧ J62.fresh = false := ⟨rfl, rfl⟩
theorem J4l : J6e.res = [.cell 2 true 34, .tmp 3] ∧ J6e.fresh = false := ⟨rfl, rfl⟩
theorem Jda : J1f.res = [.tmp 2, .tmp 3] ∧ J1f.fresh = false := ⟨rfl, rfl⟩
theorem JbS : J71.res = [.tmp 4] ∧ J71.fresh = false := ⟨rfl, rfl⟩
theorem J6s : J55.res = [.cell 4 true 34, .tmp 5] ∧ J55.fresh = false := ⟨rfl, rfl⟩
theorem J3I : J1x.res = [.cell 2 true 34, .tmp 3] ∧ J1x.fresh = false := ⟨rfl, rfl⟩
theorem J1W : J2k.res = [.tmp 2] ∧ J2k.fresh = false := ⟨rfl, rfl⟩
theorem J4F : J4E.res = [.cell 4 true 34, .tmp 5] ∧ J4E.fresh = false := ⟨rfl, rfl⟩
theorem J91 : J6E.res = [.cell 6 true 3, .tmp 7] ∧ J6E.fresh = false := ⟨rfl, rfl⟩
theorem J8d : J6Y.res = [.cell 4 true 3, .tmp 5] ∧ J6Y.fresh = false := ⟨rfl, rfl⟩
theorem J1V : J2g.res = [.tmp 2] ∧ J2g.fresh = false := ⟨rfl, rfl⟩
theorem J8Y : J24.res = [.cell 6 true 3, .tmp 7] ∧ J24.fresh = false := ⟨rfl, rfl⟩
theorem Jb5 : J64.res = [.tmp 0] ∧ J64.fresh = false := ⟨rfl, rfl⟩
theorem JlH : J2i.res = [.cell 2 true 3] ∧ J2i.fresh = false := ⟨rfl, rfl⟩
theorem J14 : J15.res = [.tmp 2] ∧ J15.fresh = false := ⟨rfl, rfl⟩
def fns : List (FuncId × AFn) := [(J8w, J7n), (Jh, J4b), (J3F, J0W), (J4a, J0N), (J3P, J3h), (J7J, J3l), (J4c, J48), (J3y, J5X), (J6G, J1d), (J74, J2C), (J0H, JK), (J51, J53), (J5y, J3k), (J7S, J7E), (J5K, J73), (J8B, J8A), (J3D, J00), (J0i, J4J), (J4d, J4f), (J3s, J67), (J7T, J3j), (J1r, J0O), (J5l, J6i), (J6U, J6W), (J78, J6Z), (J6g, J6f), (J10, J2t), (J4O, J3i), (JX, Jp), (J5h, J6k), (J6j, J2j), (J6c, J2l), (J9f, J6a), (J6b, J62), (J68, J6e), (J2Q, J1f), (J5L, J71), (J3Q, J55), (J5B, J1x), (J3w, J2k), (J3z, J4E), (J4N, J6E), (J4Q, J6Y), (J5T, J2g), (J6F, J24), (J61, J64), (J6V, J2i), (J6O, J15)]
def Ji6 : List (FuncId × Jad) := [(J0E, J1m)]
def Ji8 : List (FuncId × (List AV → List Blk → Option Res)) := [(J1q, Jm2), (J2f, JlX), (J19, (Jhq 3 32))]
def lkF {α : Type} (f : FuncId) : List (FuncId × α) → Option α
 | [] => none
 | (g, a) :: r => if f = g then some a else lkF f r
def J2 (prims : FuncId → Option (List AV → List Blk → Option Res)) : J5g := fun f => Jr6 (lkF f fns) (lkF f Ji6) (lkF f Ji8) (prims f)
theorem Jox (p) : J2 p J8w = some (.fn J7n) := rfl
theorem JfS (p) : J2 p Jh = some (.fn J4b) := rfl
theorem Jf9 (p) : J2 p J3F = some (.fn J0W) := rfl
theorem JfM (p) : J2 p J4a = some (.fn J0N) := rfl
theorem Jnf (p) : J2 p J3P = some (.fn J3h) := rfl
theorem Jn8 (p) : J2 p J7J = some (.fn J3l) := rfl
theorem Jg1 (p) : J2 p J4c = some (.fn J48) := rfl
theorem Jlb (p) : J2 p J3y = some (.fn J5X) := rfl
theorem JnG (p) : J2 p J6G = some (.fn J1d) := rfl
theorem JmH (p) : J2 p J74 = some (.fn J2C) := rfl
theorem J9r (p) : J2 p J0H = some (.fn JK) := rfl
theorem Ji9 (p) : J2 p J51 = some (.fn J53) := rfl
theorem Jnn (p) : J2 p J5y = some (.fn J3k) := rfl
theorem Jnb (p) : J2 p J7S = some (.fn J7E) := rfl
theorem Jmi (p) : J2 p J5K = some (.fn J73) := rfl
theorem Jpc (p) : J2 p J8B = some (.fn J8A) := rfl
theorem JeH (p) : J2 p J3D = some (.fn J00) := rfl
theorem Jh4 (p) : J2 p J0i = some (.fn J4J) := rfl
theorem Jg8 (p) : J2 p J4d = some (.fn J4f) := rfl
theorem JkG (p) : J2 p J3s = some (.fn J67) := rfl
theorem JnF (p) : J2 p J7T = some (.fn J3j) := rfl
theorem JfU (p) : J2 p J1r = some (.fn J0O) := rfl
theorem JkD (p) : J2 p J5l = some (.fn J6i) := rfl
theorem Jmq (p) : J2 p J6U = some (.fn J6W) := rfl
theorem JmE (p) : J2 p J78 = some (.fn J6Z) := rfl
theorem Jl1 (p) : J2 p J6g = some (.fn J6f) := rfl
theorem Jem (p) : J2 p J10 = some (.fn J2t) := rfl
theorem Jn4 (p) : J2 p J4O = some (.fn J3i) := rfl
theorem J5R (p) : J2 p JX = some (.fn Jp) := rfl
theorem JkU (p) : J2 p J5h = some (.fn J6k) := rfl
theorem JkN (p) : J2 p J6j = some (.fn J2j) := rfl
theorem JkP (p) : J2 p J6c = some (.fn J2l) := rfl
theorem Jlh (p) : J2 p J9f = some (.fn J6a) := rfl
theorem JkJ (p) : J2 p J6b = some (.fn J62) := rfl
theorem JkT (p) : J2 p J68 = some (.fn J6e) := rfl
theorem JiQ (p) : J2 p J2Q = some (.fn J1f) := rfl
theorem Jmx (p) : J2 p J5L = some (.fn J71) := rfl
theorem JhE (p) : J2 p J3Q = some (.fn J55) := rfl
theorem Jjx (p) : J2 p J5B = some (.fn J1x) := rfl
theorem JkX (p) : J2 p J3w = some (.fn J2k) := rfl
theorem JgN (p) : J2 p J3z = some (.fn J4E) := rfl
theorem Jne (p) : J2 p J4N = some (.fn J6E) := rfl
theorem Jm6 (p) : J2 p J4Q = some (.fn J6Y) := rfl
theorem Jkl (p) : J2 p J5T = some (.fn J2g) := rfl
theorem JnM (p) : J2 p J6F = some (.fn J24) := rfl
theorem Jko (p) : J2 p J61 = some (.fn J64) := rfl
theorem Jmw (p) : J2 p J6V = some (.fn J2i) := rfl
theorem Jgg (p) : J2 p J6O = some (.fn J15) := rfl
theorem J9q (p) : J2 p J0E = some (.fork J1m) := rfl
theorem Jnl (p) : J2 p J1q = some (.prim Jm2) := rfl
theorem Jhv (p) : J2 p J2f = some (.prim JlX) := rfl
theorem J90 (p) : J2 p J19 = some (.prim (Jhq 3 32)) := rfl
end Go.Am
end
section
namespace Go.Am
set_option maxRecDepth 8000
set_option maxHeartbeats 4000000
set_option linter.unusedSimpArgs false
set_option linter.unusedVariables false
noncomputable section
variable (p : FuncId → Option (List AV → List Blk → Option Res))
def JdH  (r : T_pagemenddraw_Codes) : Option Res := some (.ptr 0 0, [.box (List.map AV.p (J0 r))])
def J8k (x0 : List Int) : Option (T_pagemenddraw_Codes) :=
 some (⟨x0, 0⟩ : T_pagemenddraw_Codes)
theorem Jfo {x0 : List Int} {o : T_pagemenddraw_Codes} (h : J8k x0 = some o) :
  rk (J2 p) J7n 0 [] (X (J2 p) JbF ⟨[(0, .p (.sl 1 (List.map (r_i .u8) x0)))], []⟩) = JdH o := by
 unfold J8k at h
 obtain rfl := sj h
 try simp only [↓Da, Ua, JbF, Ja, JoD, ↓reduceIte, reduceEqDiff, reduceAdd, reduceLT, reduceMul]
 rfl
def J7j (x0 : List Int) (x1 : Int) : Option (T_pagemenddraw_Codes) :=
 if (decide (((List.length x0 : Nat) : Int) > x1)) then
  Option.bind (J2H x0 none (some x1)) fun m2 =>
  J8k m2
 else
  J8k x0
theorem Jjn {x0 : List Int} {x1 : Int} {o : T_pagemenddraw_Codes} (h : J7j x0 x1 = some o) :
  rk (J2 p) J7n 0 [] (X (J2 p) J8r ⟨[(0, .p (.sl 1 (List.map (r_i .u8) x0))), (1, .p (.i .i64 x1))], []⟩) = JdH o := by
 unfold J7j at h
 rcases Jb h with ⟨h1, h⟩ | ⟨h1, h⟩
 ·obtain ⟨m2, h3, h⟩ := bi h
  have f4 : J89 1 (.p (.sl 1 (List.map (r_i .u8) x0))) none (some (.p (.i .i64 x1))) = some (.p (.sl 1 (List.map (r_i .u8) m2))) := Jqk (k := .i64) (lo := none) (hi := (some x1)) h3
  try simp only [Nf] at f4
  try simp only [↓Da, Ua, J8r, Ja, *, ↓reduceIte, reduceEqDiff, reduceAdd, reduceLT, reduceMul]
  have e0 := Jfo p h
  exact e0
 ·try simp only [↓Da, Ua, J8r, Ja, *, ↓reduceIte, reduceEqDiff, reduceAdd, reduceLT, reduceMul]
  have e0 := Jfo p h
  exact e0
theorem JoI {x0 : List Int} {x1 : Int} {o : T_pagemenddraw_Codes} (h : J7j x0 x1 = some o) : AF (J2 p) J8w [.p (.sl 1 (List.map (r_i .u8) x0)), .p (.i .i64 x1)] [] = JdH o :=
 (J0r (J2 p) (Jox p) rfl).trans (Jjn p h)
def J6P  (r : Int × T_pagemenddraw_Codes) : Option Res := some (.p (.i .i64 r.1), [.box (List.map AV.p (J0 r.2))])
def J5M (rec : T_pagemenddraw_Codes → Int → Option (Int × T_pagemenddraw_Codes)) (b0 : T_pagemenddraw_Codes) (x1 : Int) : Option (Int × T_pagemenddraw_Codes) :=
 if (decide (b0.at_ ≥ ((List.length b0.l_ : Nat) : Int))) then
  some (0, b0)
 else
  if (decide (x1 < 1)) then
   some (0, b0)
  else
   Option.bind (idx b0.l_ b0.at_) fun y3 =>
   if (decide (x1 > 256)) then
    Option.bind (rec (⟨b0.l_, (IntKind.wrap .i64 (b0.at_ + 1))⟩ : T_pagemenddraw_Codes) 256) fun r7 =>
    Option.bind (Jm0 (IntKind.wrap .i64 ((IntKind.wrap .i64 (256 * (IntKind.wrap .i64 y3))) + r7.1)) x1) fun q10 =>
    some (q10, r7.2)
   else
    Option.bind (Jm0 (IntKind.wrap .i64 y3) x1) fun q12 =>
    some (q12, (⟨b0.l_, (IntKind.wrap .i64 (b0.at_ + 1))⟩ : T_pagemenddraw_Codes))
theorem Jd8 {rec : T_pagemenddraw_Codes → Int → Option (Int × T_pagemenddraw_Codes)} (hrec : ∀ {b0 : T_pagemenddraw_Codes} {x1 : Int} {o : Int × T_pagemenddraw_Codes}, rec b0 x1 = some o → AF (J2 p) Jh [.ptr 0 0, .p (.i .i64 x1)] [.box (List.map AV.p (J0 b0))] = J6P o) {b0 : T_pagemenddraw_Codes} {x1 : Int} {o : Int × T_pagemenddraw_Codes} (h : J5M rec b0 x1 = some o) :
  rk (J2 p) J4b 1 [] (X (J2 p) J1s ⟨[(0, .ptr 0 0), (1, .p (.i .i64 x1))], [.box (List.map AV.p (J0 b0))]⟩) = J6P o := by
 unfold J5M at h
 rcases Jb h with ⟨h1, h⟩ | ⟨h1, h⟩
 ·obtain rfl := sj h
  try simp only [↓Da, Ua, J1s, Ja, J6N, *, ↓reduceIte, reduceEqDiff, reduceAdd, reduceLT, reduceMul]
  rfl
 ·try simp only [↓Da, Ua, J1s, Ja, *, ↓reduceIte, reduceEqDiff, reduceAdd, reduceLT, reduceMul]
  rcases Jb h with ⟨h2, h⟩ | ⟨h2, h⟩
  ·obtain rfl := sj h
   try simp only [↓Da, Ua, J1s, Ja, J6N, *, ↓reduceIte, reduceEqDiff, reduceAdd, reduceLT, reduceMul]
   rfl
  ·obtain ⟨y3, h4, h⟩ := bi h
   have f5 := J4t (r := (r_i .u8)) h4
   try simp only [Nf] at f5
   try simp only [↓Da, Ua, J1s, Ja, *, ↓reduceIte, reduceEqDiff, reduceAdd, reduceLT, reduceMul]
   rcases Jb h with ⟨h6, h⟩ | ⟨h6, h⟩
   ·obtain ⟨r7, h8, h⟩ := bi h
    have f9 : ∀ ws new s, J07 ws s [0] [List.map AV.p (J0 (⟨b0.l_, (IntKind.wrap .i64 (b0.at_ + 1))⟩ : T_pagemenddraw_Codes))] → (Jj (AF (J2 p)) Jh ([.ptr 0 0, .p (.i .i64 256)], ws) 0 new).run s = some ⟨.p (.i .i64 r7.1), ws ++ [(0, .box (List.map AV.p (J0 r7.2)))]⟩ := JT (args' := [.ptr 0 0, .p (.i .i64 256)]) (bs := [0]) (css := [List.map AV.p (J0 (⟨b0.l_, (IntKind.wrap .i64 (b0.at_ + 1))⟩ : T_pagemenddraw_Codes))]) (css' := [List.map AV.p (J0 r7.2)]) rfl rfl rfl (by simp [Jm, Jf]) (hrec h8) rfl rfl (by simp [Jm, Jf])
    try simp only [Nf] at f9
    obtain ⟨q10, h11, h⟩ := bi h
    obtain rfl := sj h
    try simp only [↓Da, Ua, J1s, Ja, J6N, *, ↓reduceIte, reduceEqDiff, reduceAdd, reduceLT, reduceMul]
    rfl
   ·obtain ⟨q12, h13, h⟩ := bi h
    obtain rfl := sj h
    try simp only [↓Da, Ua, J1s, Ja, J6N, *, ↓reduceIte, reduceEqDiff, reduceAdd, reduceLT, reduceMul]
    rfl
def J4B : Nat → T_pagemenddraw_Codes → Int → Option (Int × T_pagemenddraw_Codes)
 | 0 => fun _ _ => none
 | n + 1 => J5M (J4B n)
def JI : T_pagemenddraw_Codes → Int → Option (Int × T_pagemenddraw_Codes) := J4B 12
theorem Jal : ∀ n, ∀ {b0 : T_pagemenddraw_Codes} {x1 : Int} {o : Int × T_pagemenddraw_Codes}, J4B n b0 x1 = some o → AF (J2 p) Jh [.ptr 0 0, .p (.i .i64 x1)] [.box (List.map AV.p (J0 b0))] = J6P o
 | 0 => fun h => by cases h
 | n + 1 => fun h => (J0r (J2 p) (JfS p) rfl).trans (Jd8 p (Jal n) h)
theorem JU {b0 : T_pagemenddraw_Codes} {x1 : Int} {o : Int × T_pagemenddraw_Codes} (h : JI b0 x1 = some o) : AF (J2 p) Jh [.ptr 0 0, .p (.i .i64 x1)] [.box (List.map AV.p (J0 b0))] = J6P o := Jal p 12 h
def J3O  (r : (List UInt8) × T_pagemenddraw_Codes) : Option Res := some (.p (.s r.1), [.box (List.map AV.p (J0 r.2))])
def J9N (x4 : Int) (b0 : T_pagemenddraw_Codes) (o : (Int × (List Int)) ⊕ ((List UInt8) × T_pagemenddraw_Codes)) : Option Res := match o with
 | .inl s => rk (J2 p) J0W 1 [.bl 0, .sq (.keep [0, 3] J2c)] (X (J2 p) (.lp 2 [0, 3, 4, 5] J1C) ⟨[(0, .ptr 0 0), (3, .slr 1 0 (List.length s.2)), (4, .p (.i .u8 x4)), (5, .p (.i .i64 s.1))], [.box (List.map AV.p (J0 b0)), .arr true 1 (List.map (r_i .u8) s.2)]⟩)
 | .inr o => J3O o
def J5t (b0 : T_pagemenddraw_Codes) (l1 : List Int) : Option ((List UInt8) × T_pagemenddraw_Codes) :=
 Option.bind (JI b0 256) fun r1 =>
 Option.bind (JI r1.2 256) fun r4 =>
 Option.bind (idx l1 r1.1) fun y7 =>
 Option.bind (some (List.set l1 (Int.toNat r1.1) (IntKind.wrap .u8 r4.1))) fun m11 =>
 some ((toStr m11), r4.2)
theorem Jdh {b0 : T_pagemenddraw_Codes} {l1 : List Int} {o : (List UInt8) × T_pagemenddraw_Codes} (h : J5t b0 l1 = some o) :
  rk (J2 p) J0W 1 [] (X (J2 p) J2c ⟨[(0, .ptr 0 0), (3, .slr 1 0 (List.length l1))], [.box (List.map AV.p (J0 b0)), .arr true 1 (List.map (r_i .u8) l1)]⟩) = J3O o := by
 unfold J5t at h
 obtain ⟨r1, h2, h⟩ := bi h
 have f3 : ∀ ws new s, J07 ws s [0] [List.map AV.p (J0 b0)] → (Jj (AF (J2 p)) Jh ([.ptr 0 0, .p (.i .i64 256)], ws) 0 new).run s = some ⟨.p (.i .i64 r1.1), ws ++ [(0, .box (List.map AV.p (J0 r1.2)))]⟩ := JT (args' := [.ptr 0 0, .p (.i .i64 256)]) (bs := [0]) (css := [List.map AV.p (J0 b0)]) (css' := [List.map AV.p (J0 r1.2)]) rfl rfl rfl (by simp [Jm, Jf]) (JU p h2) rfl rfl (by simp [Jm, Jf])
 try simp only [Nf] at f3
 obtain ⟨r4, h5, h⟩ := bi h
 have f6 : ∀ ws new s, J07 ws s [0] [List.map AV.p (J0 r1.2)] → (Jj (AF (J2 p)) Jh ([.ptr 0 0, .p (.i .i64 256)], ws) 0 new).run s = some ⟨.p (.i .i64 r4.1), ws ++ [(0, .box (List.map AV.p (J0 r4.2)))]⟩ := JT (args' := [.ptr 0 0, .p (.i .i64 256)]) (bs := [0]) (css := [List.map AV.p (J0 r1.2)]) (css' := [List.map AV.p (J0 r4.2)]) rfl rfl rfl (by simp [Jm, Jf]) (JU p h5) rfl rfl (by simp [Jm, Jf])
 try simp only [Nf] at f6
 obtain ⟨y7, h8, h⟩ := bi h
 have f9 := JgU (r := (r_i .u8)) h8
 try simp only [Nf] at f9
 have f10 : (0 ≤ (r1.1 : Int) ∧ (r1.1 : Int) < (((List.length l1) : Nat) : Int)) = True := eq_true (by have e0 := JiV h8; (try simp only [List.length_cons, List.length_nil, Nat.zero_add] at e0); omega)
 obtain ⟨m11, h12, h⟩ := bi h
 have f13 : List.set (List.map (r_i .u8) l1) (Int.toNat r1.1) ((r_i .u8) (IntKind.wrap .u8 r4.1)) = List.map (r_i .u8) m11 := by
  rw [← Option.some.inj h12, List.map_set]
 try simp only [Nf] at f13
 have g14 : List.length m11 = List.length l1 := by rw [← Option.some.inj h12, List.length_set]
 obtain rfl := sj h
 try simp only [↓Da, Ua, J2c, Ja, Jf4, *, ↓reduceIte, reduceEqDiff, reduceAdd, reduceLT, reduceMul]
 rfl
def J2b (x4 : Int) (b0 : T_pagemenddraw_Codes) (x5 : Int) (l1 : List Int) : Option (((Int × (List Int)) ⊕ ((List UInt8) × T_pagemenddraw_Codes))) :=
 if (decide (x5 < (((List.length l1) : Nat) : Int))) then
  Option.bind (idx l1 x5) fun y2 =>
  Option.bind (some (List.set l1 (Int.toNat x5) x4)) fun m6 =>
  some (.inl ((IntKind.wrap .i64 (x5 + 1)), m6))
 else
  Option.map (fun o => .inr o) (J5t b0 l1)
theorem J9X {x4 : Int} {b0 : T_pagemenddraw_Codes} {x5 : Int} {l1 : List Int} {o : ((Int × (List Int)) ⊕ ((List UInt8) × T_pagemenddraw_Codes))} (h : J2b x4 b0 x5 l1 = some o) :
  rk (J2 p) J0W 1 [.lo 2 [0, 3, 4, 5] J1C, .bl 0, .sq (.keep [0, 3] J2c)] (X (J2 p) J1C ⟨[(0, .ptr 0 0), (3, .slr 1 0 (List.length l1)), (4, .p (.i .u8 x4)), (5, .p (.i .i64 x5))], [.box (List.map AV.p (J0 b0)), .arr true 1 (List.map (r_i .u8) l1)]⟩) = (J9N p x4 b0) o := by
 unfold J2b at h
 rcases Jb h with ⟨h1, h⟩ | ⟨h1, h⟩
 ·obtain ⟨y2, h3, h⟩ := bi h
  have f4 := JgU (r := (r_i .u8)) h3
  try simp only [Nf] at f4
  have f5 : (0 ≤ (x5 : Int) ∧ (x5 : Int) < (((List.length l1) : Nat) : Int)) = True := eq_true (by have e0 := JiV h3; (try simp only [List.length_cons, List.length_nil, Nat.zero_add] at e0); omega)
  obtain ⟨m6, h7, h⟩ := bi h
  have f8 : List.set (List.map (r_i .u8) l1) (Int.toNat x5) ((r_i .u8) x4) = List.map (r_i .u8) m6 := by
   rw [← Option.some.inj h7, List.map_set]
  try simp only [Nf] at f8
  have g9 : List.length m6 = List.length l1 := by rw [← Option.some.inj h7, List.length_set]
  obtain rfl := sj h
  try simp only [↓Da, Ua, J1C, *, ↓reduceIte, reduceEqDiff, reduceAdd, reduceLT, reduceMul]
  try simp only [J9N, g9]
  try rfl
 ·obtain ⟨o', h', rfl⟩ := mi h
  try simp only [↓Da, Ua, J1C, *, ↓reduceIte, reduceEqDiff, reduceAdd, reduceLT, reduceMul]
  have e0 := Jdh p h'
  exact e0
def J9G (x4 : Int) (b0 : T_pagemenddraw_Codes) (s : Int × (List Int)) : Option ((List UInt8) × T_pagemenddraw_Codes) :=
 Ju (fun s => J2b x4 b0 s.1 s.2) s
theorem Jct {x4 : Int} {b0 : T_pagemenddraw_Codes} {s : Int × (List Int)} {o : (List UInt8) × T_pagemenddraw_Codes} (h : J9G x4 b0 s = some o) :
  rk (J2 p) J0W 1 [.bl 0, .sq (.keep [0, 3] J2c)] (X (J2 p) (.lp 2 [0, 3, 4, 5] J1C) ⟨[(0, .ptr 0 0), (3, .slr 1 0 (List.length s.2)), (4, .p (.i .u8 x4)), (5, .p (.i .i64 s.1))], [.box (List.map AV.p (J0 b0)), .arr true 1 (List.map (r_i .u8) s.2)]⟩) = J3O o := by
 have h0 : Ju (fun s => J2b x4 b0 s.1 s.2) s = some o := h
 exact J0m (P := fun (s : Int × (List Int)) (o : (List UInt8) × T_pagemenddraw_Codes) => rk (J2 p) J0W 1 [.bl 0, .sq (.keep [0, 3] J2c)] (X (J2 p) (.lp 2 [0, 3, 4, 5] J1C) ⟨[(0, .ptr 0 0), (3, .slr 1 0 (List.length s.2)), (4, .p (.i .u8 x4)), (5, .p (.i .i64 s.1))], [.box (List.map AV.p (J0 b0)), .arr true 1 (List.map (r_i .u8) s.2)]⟩) = J3O o) (fun s r hs => by rw [J0q]; exact J9X p hs) (fun s s1 r hs ih => by rw [J0q]; exact (J9X p hs).trans ih) h0
def J2D (b0 : T_pagemenddraw_Codes) : Option ((List UInt8) × T_pagemenddraw_Codes) :=
 Option.bind (mkS 1 256 256 0) fun m1 =>
 Option.bind (JI b0 256) fun r6 =>
 J9G (IntKind.wrap .u8 r6.1) r6.2 (0, m1)
theorem Jcw {b0 : T_pagemenddraw_Codes} {o : (List UInt8) × T_pagemenddraw_Codes} (h : J2D b0 = some o) :
  rk (J2 p) J0W 1 [] (X (J2 p) J4S ⟨[(0, .ptr 0 0)], [.box (List.map AV.p (J0 b0))]⟩) = J3O o := by
 unfold J2D at h
 obtain ⟨m1, h2, h⟩ := bi h
 have f3 : (0 ≤ (256 : Int) ∧ (256 : Int) ≤ 256 ∧ ((1 : Nat) : Int) * 256 ≤ 281474976710656 ∧ (256 : Int) ≤ 281474976710656) = True := eq_true (J9E h2).1
 have f4 : List.replicate (Int.toNat 256) ((r_i .u8) 0) = List.map (r_i .u8) m1 := by rw [(J9E h2).2, List.map_replicate]
 try simp only [Nf] at f4
 have g5 : List.length m1 = Int.toNat 256 := by rw [(J9E h2).2, List.length_replicate]
 obtain ⟨r6, h7, h⟩ := bi h
 have f8 : ∀ ws new s, J07 ws s [0] [List.map AV.p (J0 b0)] → (Jj (AF (J2 p)) Jh ([.ptr 0 0, .p (.i .i64 256)], ws) 0 new).run s = some ⟨.p (.i .i64 r6.1), ws ++ [(0, .box (List.map AV.p (J0 r6.2)))]⟩ := JT (args' := [.ptr 0 0, .p (.i .i64 256)]) (bs := [0]) (css := [List.map AV.p (J0 b0)]) (css' := [List.map AV.p (J0 r6.2)]) rfl rfl rfl (by simp [Jm, Jf]) (JU p h7) rfl rfl (by simp [Jm, Jf])
 try simp only [Nf] at f8
 try simp only [↓Da, Ua, J4S, Ja, *, ↓reduceIte, reduceEqDiff, reduceAdd, reduceLT, reduceMul]
 have e0 := Jct p h
 try simp only [g5] at e0
 exact e0
theorem JeE {b0 : T_pagemenddraw_Codes} {o : (List UInt8) × T_pagemenddraw_Codes} (h : J2D b0 = some o) : AF (J2 p) J3F [.ptr 0 0] [.box (List.map AV.p (J0 b0))] = J3O o :=
 (J0r (J2 p) (Jf9 p) rfl).trans (Jcw p h)
def J32  (r : (List UInt8) × T_pagemenddraw_Codes) : Option Res := some (.p (.s r.1), [.box (List.map AV.p (J0 r.2))])
def Jew (x3 : Int) (w1 : Bool) (o : (Int × T_pagemenddraw_Codes × (List Int)) ⊕ ((List UInt8) × T_pagemenddraw_Codes)) : Option Res := match o with
 | .inl s => rk (J2 p) J0N 1 [.bl 0, .sq (.keep [4] J2y)] (X (J2 p) (.lp 2 [0, 3, 4, 5] J1O) ⟨[(0, .ptr 0 0), (3, .p (.i .i64 x3)), (4, .slr 1 0 (List.length s.2.2)), (5, .p (.i .i64 s.1))], [.box (List.map AV.p (J0 s.2.1)), .arr w1 1 (List.map (r_i .u8) s.2.2)]⟩)
 | .inr o => J32 o
def J5Q (b0 : T_pagemenddraw_Codes) (l1 : List Int) : Option ((List UInt8) × T_pagemenddraw_Codes) :=
 some ((toStr l1), b0)
theorem Jeu {b0 : T_pagemenddraw_Codes} {l1 : List Int} {w1 : Bool} {o : (List UInt8) × T_pagemenddraw_Codes} (h : J5Q b0 l1 = some o) :
  rk (J2 p) J0N 1 [] (X (J2 p) J2y ⟨[(4, .slr 1 0 (List.length l1))], [.box (List.map AV.p (J0 b0)), .arr w1 1 (List.map (r_i .u8) l1)]⟩) = J32 o := by
 unfold J5Q at h
 obtain rfl := sj h
 try simp only [↓Da, Ua, J2y, Jg6, ↓reduceIte, reduceEqDiff, reduceAdd, reduceLT, reduceMul]
 rfl
def J2w (x3 x5 : Int) (b0 : T_pagemenddraw_Codes) (l1 : List Int) : Option (((Int × T_pagemenddraw_Codes × (List Int)) ⊕ ((List UInt8) × T_pagemenddraw_Codes))) :=
 if (decide (x5 < x3)) then
  Option.bind (JI b0 3) fun r2 =>
  Option.bind (JcB 1 l1 ([(IntKind.wrap .u8 (IntKind.wrap .i64 (97 + r2.1)))] : List Int)) fun m5 =>
  some (.inl ((IntKind.wrap .i64 (x5 + 1)), r2.2, m5))
 else
  Option.map (fun o => .inr o) (J5Q b0 l1)
theorem Jag {x3 x5 : Int} {b0 : T_pagemenddraw_Codes} {l1 : List Int} {w1 : Bool} {o : ((Int × T_pagemenddraw_Codes × (List Int)) ⊕ ((List UInt8) × T_pagemenddraw_Codes))} (h : J2w x3 x5 b0 l1 = some o) :
  rk (J2 p) J0N 1 [.lo 2 [0, 3, 4, 5] J1O, .bl 0, .sq (.keep [4] J2y)] (X (J2 p) J1O ⟨[(0, .ptr 0 0), (3, .p (.i .i64 x3)), (4, .slr 1 0 (List.length l1)), (5, .p (.i .i64 x5))], [.box (List.map AV.p (J0 b0)), .arr w1 1 (List.map (r_i .u8) l1)]⟩) = (Jew p x3 w1) o := by
 unfold J2w at h
 rcases Jb h with ⟨h1, h⟩ | ⟨h1, h⟩
 ·obtain ⟨r2, h3, h⟩ := bi h
  have f4 : ∀ ws new s, J07 ws s [0] [List.map AV.p (J0 b0)] → (Jj (AF (J2 p)) Jh ([.ptr 0 0, .p (.i .i64 3)], ws) 0 new).run s = some ⟨.p (.i .i64 r2.1), ws ++ [(0, .box (List.map AV.p (J0 r2.2)))]⟩ := JT (args' := [.ptr 0 0, .p (.i .i64 3)]) (bs := [0]) (css := [List.map AV.p (J0 b0)]) (css' := [List.map AV.p (J0 r2.2)]) rfl rfl rfl (by simp [Jm, Jf]) (JU p h3) rfl rfl (by simp [Jm, Jf])
  try simp only [Nf] at f4
  obtain ⟨m5, h6, h⟩ := bi h
  have f7 : ∀ s : St, s.sto[1]? = some (.arr w1 1 (List.map (r_i .u8) l1)) → (J02 1 (.p (.sl 1 (List.map (r_i .u8) ([(IntKind.wrap .u8 (IntKind.wrap .i64 (97 + r2.1)))] : List Int))))).run s = some (List.map (r_i .u8) ([(IntKind.wrap .u8 (IntKind.wrap .i64 (97 + r2.1)))] : List Int)) → (J4L 1 1 (.slr 1 0 (List.length l1)) (.p (.sl 1 (List.map (r_i .u8) ([(IntKind.wrap .u8 (IntKind.wrap .i64 (97 + r2.1)))] : List Int))))).run s = some ⟨.slr 1 0 (List.length m5), [(1, .arr w1 1 (List.map (r_i .u8) m5))]⟩ := by
   intro s e1 e2; have e3 := Jfv h6 e1 e2; try simp only [List.length_cons, List.length_nil, Nat.zero_add] at e3
   exact e3
  try simp only [Nf] at f7
  obtain rfl := sj h
  try simp only [↓Da, Ua, J1O, Ja, *, ↓reduceIte, reduceEqDiff, reduceAdd, reduceLT, reduceMul]
  rfl
 ·obtain ⟨o', h', rfl⟩ := mi h
  try simp only [↓Da, Ua, J1O, Ja, *, ↓reduceIte, reduceEqDiff, reduceAdd, reduceLT, reduceMul]
  have e0 := Jeu p (w1 := w1) h'
  exact e0
def Jah (x3 : Int) (s : Int × T_pagemenddraw_Codes × (List Int)) : Option ((List UInt8) × T_pagemenddraw_Codes) :=
 Ju (fun s => J2w x3 s.1 s.2.1 s.2.2) s
theorem JcY {x3 : Int} {w1 : Bool} {s : Int × T_pagemenddraw_Codes × (List Int)} {o : (List UInt8) × T_pagemenddraw_Codes} (h : Jah x3 s = some o) :
  rk (J2 p) J0N 1 [.bl 0, .sq (.keep [4] J2y)] (X (J2 p) (.lp 2 [0, 3, 4, 5] J1O) ⟨[(0, .ptr 0 0), (3, .p (.i .i64 x3)), (4, .slr 1 0 (List.length s.2.2)), (5, .p (.i .i64 s.1))], [.box (List.map AV.p (J0 s.2.1)), .arr w1 1 (List.map (r_i .u8) s.2.2)]⟩) = J32 o := by
 have h0 : Ju (fun s => J2w x3 s.1 s.2.1 s.2.2) s = some o := h
 exact J0m (P := fun (s : Int × T_pagemenddraw_Codes × (List Int)) (o : (List UInt8) × T_pagemenddraw_Codes) => rk (J2 p) J0N 1 [.bl 0, .sq (.keep [4] J2y)] (X (J2 p) (.lp 2 [0, 3, 4, 5] J1O) ⟨[(0, .ptr 0 0), (3, .p (.i .i64 x3)), (4, .slr 1 0 (List.length s.2.2)), (5, .p (.i .i64 s.1))], [.box (List.map AV.p (J0 s.2.1)), .arr w1 1 (List.map (r_i .u8) s.2.2)]⟩) = J32 o) (fun s r hs => by rw [J0q]; exact Jag p hs) (fun s s1 r hs ih => by rw [J0q]; exact (Jag p hs).trans ih) h0
def J3d (x3 : Int) (b0 : T_pagemenddraw_Codes) : Option ((List UInt8) × T_pagemenddraw_Codes) :=
 Option.bind (mkS 1 0 x3 0) fun m1 =>
 Jah x3 (0, b0, m1)
theorem Jaf {x3 : Int} {b0 : T_pagemenddraw_Codes} {o : (List UInt8) × T_pagemenddraw_Codes} (h : J3d x3 b0 = some o) :
  rk (J2 p) J0N 1 [] (X (J2 p) J7U ⟨[(0, .ptr 0 0), (3, .p (.i .i64 x3))], [.box (List.map AV.p (J0 b0))]⟩) = J32 o := by
 unfold J3d at h
 obtain ⟨m1, h2, h⟩ := bi h
 have f3 : (0 ≤ (0 : Int) ∧ (0 : Int) ≤ x3 ∧ ((1 : Nat) : Int) * x3 ≤ 281474976710656 ∧ (x3 : Int) ≤ 281474976710656) = True := eq_true (J9E h2).1
 have f4 : List.replicate (Int.toNat 0) ((r_i .u8) 0) = List.map (r_i .u8) m1 := by rw [(J9E h2).2, List.map_replicate]
 try simp only [Nf] at f4
 have g5 : List.length m1 = Int.toNat 0 := by rw [(J9E h2).2, List.length_replicate]
 try simp only [↓Da, Ua, J7U, *, ↓reduceIte, reduceEqDiff, reduceAdd, reduceLT, reduceMul]
 have e0 := JcY p (w1 := true) h
 try simp only [g5] at e0
 exact e0
def J4i (b0 : T_pagemenddraw_Codes) : Option ((List UInt8) × T_pagemenddraw_Codes) :=
 Option.bind (JI b0 5) fun r1 =>
 Option.bind (JI r1.2 6) fun r4 =>
 if ((r4.1 : Int) == 0) then
  Option.bind (JI r4.2 14) fun r8 =>
  J3d r8.1 r8.2
 else
  J3d r1.1 r4.2
theorem Jd7 {b0 : T_pagemenddraw_Codes} {o : (List UInt8) × T_pagemenddraw_Codes} (h : J4i b0 = some o) :
  rk (J2 p) J0N 1 [] (X (J2 p) J2Y ⟨[(0, .ptr 0 0)], [.box (List.map AV.p (J0 b0))]⟩) = J32 o := by
 unfold J4i at h
 obtain ⟨r1, h2, h⟩ := bi h
 have f3 : ∀ ws new s, J07 ws s [0] [List.map AV.p (J0 b0)] → (Jj (AF (J2 p)) Jh ([.ptr 0 0, .p (.i .i64 5)], ws) 0 new).run s = some ⟨.p (.i .i64 r1.1), ws ++ [(0, .box (List.map AV.p (J0 r1.2)))]⟩ := JT (args' := [.ptr 0 0, .p (.i .i64 5)]) (bs := [0]) (css := [List.map AV.p (J0 b0)]) (css' := [List.map AV.p (J0 r1.2)]) rfl rfl rfl (by simp [Jm, Jf]) (JU p h2) rfl rfl (by simp [Jm, Jf])
 try simp only [Nf] at f3
 obtain ⟨r4, h5, h⟩ := bi h
 have f6 : ∀ ws new s, J07 ws s [0] [List.map AV.p (J0 r1.2)] → (Jj (AF (J2 p)) Jh ([.ptr 0 0, .p (.i .i64 6)], ws) 0 new).run s = some ⟨.p (.i .i64 r4.1), ws ++ [(0, .box (List.map AV.p (J0 r4.2)))]⟩ := JT (args' := [.ptr 0 0, .p (.i .i64 6)]) (bs := [0]) (css := [List.map AV.p (J0 r1.2)]) (css' := [List.map AV.p (J0 r4.2)]) rfl rfl rfl (by simp [Jm, Jf]) (JU p h5) rfl rfl (by simp [Jm, Jf])
 try simp only [Nf] at f6
 try simp only [↓Da, Ua, J2Y, Ja, *, ↓reduceIte, reduceEqDiff, reduceAdd, reduceLT, reduceMul]
 rcases Jb h with ⟨h7, h⟩ | ⟨h7, h⟩
 ·have h7n : ((r4.1 : Int) != 0) = false := by rw [bne, h7]; rfl
  obtain ⟨r8, h9, h⟩ := bi h
  have f10 : ∀ ws new s, J07 ws s [0] [List.map AV.p (J0 r4.2)] → (Jj (AF (J2 p)) Jh ([.ptr 0 0, .p (.i .i64 14)], ws) 0 new).run s = some ⟨.p (.i .i64 r8.1), ws ++ [(0, .box (List.map AV.p (J0 r8.2)))]⟩ := JT (args' := [.ptr 0 0, .p (.i .i64 14)]) (bs := [0]) (css := [List.map AV.p (J0 r4.2)]) (css' := [List.map AV.p (J0 r8.2)]) rfl rfl rfl (by simp [Jm, Jf]) (JU p h9) rfl rfl (by simp [Jm, Jf])
  try simp only [Nf] at f10
  try simp only [↓Da, Ua, J2Y, Ja, *, ↓reduceIte, reduceEqDiff, reduceAdd, reduceLT, reduceMul]
  have e0 := Jaf p h
  exact e0
 ·have h7n : ((r4.1 : Int) != 0) = true := by rw [bne, h7]; rfl
  try simp only [↓Da, Ua, J2Y, Ja, *, ↓reduceIte, reduceEqDiff, reduceAdd, reduceLT, reduceMul]
  have e0 := Jaf p h
  exact e0
theorem JfN {b0 : T_pagemenddraw_Codes} {o : (List UInt8) × T_pagemenddraw_Codes} (h : J4i b0 = some o) : AF (J2 p) J4a [.ptr 0 0] [.box (List.map AV.p (J0 b0))] = J32 o :=
 (J0r (J2 p) (JfM p) rfl).trans (Jd7 p h)
def Jgp (r : List UInt8) : Option Res := some (.p (.s r), [])
def J0s (x0 : List UInt8) (x1 x2 : Int) : Option (List UInt8) := Jfc x0 x1 x2
theorem Jgr {x0 : List UInt8} {x1 x2 : Int} {o : List UInt8} (h : J0s x0 x1 x2 = some o) : AF (J2 p) J1q [.p (.s x0), .p (.i .i64 x1), .p (.i .i64 x2)] [] = Jgp o := by
 rw [Jfz (Jnl p)]
 have h' : Jfc x0 x1 x2 = some o := h
 simp only [Jm2, h', Option.map_some, Jgp]
theorem J6J {x0 : List UInt8} {x1 x2 : Int} {o : List UInt8} (h : J0s x0 x1 x2 = some o) : ∀ ws new st, (Jj (AF (J2 p)) J1q ([.p (.s x0), .p (.i .i64 x1), .p (.i .i64 x2)], ws) 0 new).run st = some ⟨.p (.s o), ws⟩ := Jx rfl (Jgr p h) rfl
def J7K  (r : (List UInt8)) : Option Res := some (.p (.s r), [])
def JkV (x1 x2 : Int) (o : ((List UInt8) × Int) ⊕ ((List UInt8))) : Option Res := match o with
 | .inl s => rk (J2 p) J3h 0 [.bl 0, .sq (.keep [0] J5e)] (X (J2 p) (.lp 0 [0, 1, 2, 7] J4r) ⟨[(0, .p (.s s.1)), (1, .p (.i .i64 x1)), (2, .p (.i .i64 x2)), (7, .p (.i .i64 s.2))], []⟩)
 | .inr o => J7K o
def J9h (x0 : List UInt8) : Option ((List UInt8)) :=
 some x0
theorem Jkm {x0 : List UInt8} {o : (List UInt8)} (h : J9h x0 = some o) :
  rk (J2 p) J3h 0 [] (X (J2 p) J5e ⟨[(0, .p (.s x0))], []⟩) = J7K o := by
 unfold J9h at h
 obtain rfl := sj h
 try simp only [↓Da, Ua, J5e, Jcs, ↓reduceIte, reduceEqDiff, reduceAdd, reduceLT, reduceMul]
 rfl
def J58 (x1 x2 : Int) (x0 : List UInt8) (x7 : Int) : Option ((((List UInt8) × Int) ⊕ ((List UInt8)))) :=
 if (decide (x7 < x2)) then
  Option.bind (J7V .u64 (IntKind.wrap .u64 x1) (IntKind.wrap .u64 (IntKind.wrap .i64 (8 * x7)))) fun q2 =>
  Option.bind (J46 x0 (toStr ([(IntKind.wrap .u8 q2)] : List Int))) fun s5 =>
  some (.inl (s5, (IntKind.wrap .i64 (x7 + 1))))
 else
  Option.map (fun o => .inr o) (J9h x0)
theorem JdQ {x1 x2 : Int} {x0 : List UInt8} {x7 : Int} {o : (((List UInt8) × Int) ⊕ ((List UInt8)))} (h : J58 x1 x2 x0 x7 = some o) :
  rk (J2 p) J3h 0 [.lo 0 [0, 1, 2, 7] J4r, .bl 0, .sq (.keep [0] J5e)] (X (J2 p) J4r ⟨[(0, .p (.s x0)), (1, .p (.i .i64 x1)), (2, .p (.i .i64 x2)), (7, .p (.i .i64 x7))], []⟩) = (JkV p x1 x2) o := by
 unfold J58 at h
 rcases Jb h with ⟨h1, h⟩ | ⟨h1, h⟩
 ·obtain ⟨q2, h3, h⟩ := bi h
  have f4 : ∀ env sto new, (cvR .toStr (.p (.sl 1 (List.map (r_i .u8) ([(IntKind.wrap .u8 q2)] : List Int)))) new).run ⟨env, sto⟩ = some ⟨.p (.s (toStr ([(IntKind.wrap .u8 q2)] : List Int))), []⟩ := fun env sto new => JuE env sto _ new
  try simp only [Nf] at f4
  obtain ⟨s5, h6, h⟩ := bi h
  obtain rfl := sj h
  try simp only [↓Da, Ua, J4r, *, ↓reduceIte, reduceEqDiff, reduceAdd, reduceLT, reduceMul]
  rfl
 ·obtain ⟨o', h', rfl⟩ := mi h
  try simp only [↓Da, Ua, J4r, *, ↓reduceIte, reduceEqDiff, reduceAdd, reduceLT, reduceMul]
  have e0 := Jkm p h'
  exact e0
def Jec (x1 x2 : Int) (s : (List UInt8) × Int) : Option ((List UInt8)) :=
 Ju (fun s => J58 x1 x2 s.1 s.2) s
theorem JhJ {x1 x2 : Int} {s : (List UInt8) × Int} {o : (List UInt8)} (h : Jec x1 x2 s = some o) :
  rk (J2 p) J3h 0 [.bl 0, .sq (.keep [0] J5e)] (X (J2 p) (.lp 0 [0, 1, 2, 7] J4r) ⟨[(0, .p (.s s.1)), (1, .p (.i .i64 x1)), (2, .p (.i .i64 x2)), (7, .p (.i .i64 s.2))], []⟩) = J7K o := by
 have h0 : Ju (fun s => J58 x1 x2 s.1 s.2) s = some o := h
 exact J0m (P := fun (s : (List UInt8) × Int) (o : (List UInt8)) => rk (J2 p) J3h 0 [.bl 0, .sq (.keep [0] J5e)] (X (J2 p) (.lp 0 [0, 1, 2, 7] J4r) ⟨[(0, .p (.s s.1)), (1, .p (.i .i64 x1)), (2, .p (.i .i64 x2)), (7, .p (.i .i64 s.2))], []⟩) = J7K o) (fun s r hs => by rw [J0q]; exact JdQ p hs) (fun s s1 r hs ih => by rw [J0q]; exact (JdQ p hs).trans ih) h0
def J1t (x0 : List UInt8) (x1 x2 : Int) : Option ((List UInt8)) :=
 if (decide (x2 < 1)) then
  some x0
 else
  if (decide (x2 > 8)) then
   some x0
  else
   Jec x1 x2 (x0, 0)
theorem JhP {x0 : List UInt8} {x1 x2 : Int} {o : (List UInt8)} (h : J1t x0 x1 x2 = some o) :
  rk (J2 p) J3h 0 [] (X (J2 p) J5x ⟨[(0, .p (.s x0)), (1, .p (.i .i64 x1)), (2, .p (.i .i64 x2))], []⟩) = J7K o := by
 unfold J1t at h
 rcases Jb h with ⟨h1, h⟩ | ⟨h1, h⟩
 ·obtain rfl := sj h
  try simp only [↓Da, Ua, J5x, Jcs, *, ↓reduceIte, reduceEqDiff, reduceAdd, reduceLT, reduceMul]
  rfl
 ·try simp only [↓Da, Ua, J5x, *, ↓reduceIte, reduceEqDiff, reduceAdd, reduceLT, reduceMul]
  rcases Jb h with ⟨h2, h⟩ | ⟨h2, h⟩
  ·obtain rfl := sj h
   try simp only [↓Da, Ua, J5x, Jcs, *, ↓reduceIte, reduceEqDiff, reduceAdd, reduceLT, reduceMul]
   rfl
  ·try simp only [↓Da, Ua, J5x, *, ↓reduceIte, reduceEqDiff, reduceAdd, reduceLT, reduceMul]
   have e0 := JhJ p h
   exact e0
theorem Jn6 {x0 : List UInt8} {x1 x2 : Int} {o : (List UInt8)} (h : J1t x0 x1 x2 = some o) : AF (J2 p) J3P [.p (.s x0), .p (.i .i64 x1), .p (.i .i64 x2)] [] = J7K o :=
 (J0r (J2 p) (Jnf p) rfl).trans (JhP p h)
theorem J92 {x0 : List UInt8} {x1 x2 : Int} {o : (List UInt8)} (h : J1t x0 x1 x2 = some o) : ∀ ws new st, (Jj (AF (J2 p)) J3P ([.p (.s x0), .p (.i .i64 x1), .p (.i .i64 x2)], ws) 0 new).run st = some ⟨.p (.s o), ws⟩ := Jx rfl (Jn6 p h) rfl
def J7I  (r : Int × Int) : Option Res := some (.tup [.p (.i .i64 r.1), .p (.i .i64 r.2)], [])
def Jlc (x0 : List UInt8) (x1 x34 : Int) (o : (Int × Int) ⊕ (Int × Int)) : Option Res := match o with
 | .inl s => rk (J2 p) J3l 0 [.bl 1, .sq (.keep [8] J5k)] (X (J2 p) (.lp 0 [0, 1, 8, 34, 35] J4n) ⟨[(0, .p (.s x0)), (1, .p (.i .i64 x1)), (8, .p (.i .u64 s.1)), (34, .p (.i .i64 x34)), (35, .p (.i .i64 s.2))], []⟩)
 | .inr o => J7I o
def J5a (x8 : Int) : Option (Int × Int) :=
 some ((IntKind.wrap .i64 x8), 0)
theorem JkW {x8 : Int} {o : Int × Int} (h : J5a x8 = some o) :
  rk (J2 p) J3l 0 [] (X (J2 p) J5k ⟨[(8, .p (.i .u64 x8))], []⟩) = J7I o := by
 unfold J5a at h
 obtain rfl := sj h
 try simp only [↓Da, Ua, J5k, J7P, ↓reduceIte, reduceEqDiff, reduceAdd, reduceLT, reduceMul]
 rfl
def J0h (x0 : List UInt8) (x1 x34 : Int) (x8 x35 : Int) : Option (((Int × Int) ⊕ (Int × Int))) :=
 if (decide (x35 < x34)) then
  Option.bind (Jcu x0 (IntKind.wrap .i64 (x1 + x35))) fun c2 =>
  Option.bind (JcF .u64 (IntKind.wrap .u64 c2) (IntKind.wrap .i64 (8 * x35))) fun q4 =>
  some (.inl ((orI .u64 x8 q4), (IntKind.wrap .i64 (x35 + 1))))
 else
  Option.map (fun o => .inr o) (J5a x8)
theorem Je5 {x0 : List UInt8} {x1 x34 : Int} {x8 x35 : Int} {o : ((Int × Int) ⊕ (Int × Int))} (h : J0h x0 x1 x34 x8 x35 = some o) :
  rk (J2 p) J3l 0 [.lo 0 [0, 1, 8, 34, 35] J4n, .bl 1, .sq (.keep [8] J5k)] (X (J2 p) J4n ⟨[(0, .p (.s x0)), (1, .p (.i .i64 x1)), (8, .p (.i .u64 x8)), (34, .p (.i .i64 x34)), (35, .p (.i .i64 x35))], []⟩) = (Jlc p x0 x1 x34) o := by
 unfold J0h at h
 rcases Jb h with ⟨h1, h⟩ | ⟨h1, h⟩
 ·obtain ⟨c2, h3, h⟩ := bi h
  obtain ⟨q4, h5, h⟩ := bi h
  obtain rfl := sj h
  try simp only [↓Da, Ua, J4n, *, ↓reduceIte, reduceEqDiff, reduceAdd, reduceLT, reduceMul]
  rfl
 ·obtain ⟨o', h', rfl⟩ := mi h
  try simp only [↓Da, Ua, J4n, *, ↓reduceIte, reduceEqDiff, reduceAdd, reduceLT, reduceMul]
  have e0 := JkW p h'
  exact e0
def JaU (x0 : List UInt8) (x1 x34 : Int) (s : Int × Int) : Option (Int × Int) :=
 Ju (fun s => J0h x0 x1 x34 s.1 s.2) s
theorem JhV {x0 : List UInt8} {x1 x34 : Int} {s o : Int × Int} (h : JaU x0 x1 x34 s = some o) :
  rk (J2 p) J3l 0 [.bl 1, .sq (.keep [8] J5k)] (X (J2 p) (.lp 0 [0, 1, 8, 34, 35] J4n) ⟨[(0, .p (.s x0)), (1, .p (.i .i64 x1)), (8, .p (.i .u64 s.1)), (34, .p (.i .i64 x34)), (35, .p (.i .i64 s.2))], []⟩) = J7I o := by
 have h0 : Ju (fun s => J0h x0 x1 x34 s.1 s.2) s = some o := h
 exact J0m (P := fun (s : Int × Int) (o : Int × Int) => rk (J2 p) J3l 0 [.bl 1, .sq (.keep [8] J5k)] (X (J2 p) (.lp 0 [0, 1, 8, 34, 35] J4n) ⟨[(0, .p (.s x0)), (1, .p (.i .i64 x1)), (8, .p (.i .u64 s.1)), (34, .p (.i .i64 x34)), (35, .p (.i .i64 s.2))], []⟩) = J7I o) (fun s r hs => by rw [J0q]; exact Je5 p hs) (fun s s1 r hs ih => by rw [J0q]; exact (Je5 p hs).trans ih) h0
def J0g (x0 : List UInt8) (x1 x2 : Int) : Option (Int × Int) :=
 if (decide (x2 < 1)) then
  some (0, 1)
 else
  if (decide (x2 > 8)) then
   some (0, 1)
  else
   if (decide (x1 < 0)) then
    some (0, 1)
   else
    if (decide (x1 > ((List.length x0 : Nat) : Int))) then
     some (0, 5)
    else
     if (decide ((IntKind.wrap .i64 (((List.length x0 : Nat) : Int) - x1)) < x2)) then
      some (0, 5)
     else
      JaU x0 x1 x2 (0, 0)
theorem Jiw {x0 : List UInt8} {x1 x2 : Int} {o : Int × Int} (h : J0g x0 x1 x2 = some o) :
  rk (J2 p) J3l 0 [] (X (J2 p) J25 ⟨[(0, .p (.s x0)), (1, .p (.i .i64 x1)), (2, .p (.i .i64 x2))], []⟩) = J7I o := by
 unfold J0g at h
 rcases Jb h with ⟨h1, h⟩ | ⟨h1, h⟩
 ·obtain rfl := sj h
  try simp only [↓Da, Ua, J25, J7P, *, ↓reduceIte, reduceEqDiff, reduceAdd, reduceLT, reduceMul]
  rfl
 ·try simp only [↓Da, Ua, J25, *, ↓reduceIte, reduceEqDiff, reduceAdd, reduceLT, reduceMul]
  rcases Jb h with ⟨h2, h⟩ | ⟨h2, h⟩
  ·obtain rfl := sj h
   try simp only [↓Da, Ua, J25, J7P, *, ↓reduceIte, reduceEqDiff, reduceAdd, reduceLT, reduceMul]
   rfl
  ·try simp only [↓Da, Ua, J25, *, ↓reduceIte, reduceEqDiff, reduceAdd, reduceLT, reduceMul]
   rcases Jb h with ⟨h3, h⟩ | ⟨h3, h⟩
   ·obtain rfl := sj h
    try simp only [↓Da, Ua, J25, J7P, *, ↓reduceIte, reduceEqDiff, reduceAdd, reduceLT, reduceMul]
    rfl
   ·try simp only [↓Da, Ua, J25, *, ↓reduceIte, reduceEqDiff, reduceAdd, reduceLT, reduceMul]
    rcases Jb h with ⟨h4, h⟩ | ⟨h4, h⟩
    ·obtain rfl := sj h
     try simp only [↓Da, Ua, J25, J7P, *, ↓reduceIte, reduceEqDiff, reduceAdd, reduceLT, reduceMul]
     rfl
    ·try simp only [↓Da, Ua, J25, *, ↓reduceIte, reduceEqDiff, reduceAdd, reduceLT, reduceMul]
     rcases Jb h with ⟨h5, h⟩ | ⟨h5, h⟩
     ·obtain rfl := sj h
      try simp only [↓Da, Ua, J25, J7P, *, ↓reduceIte, reduceEqDiff, reduceAdd, reduceLT, reduceMul]
      rfl
     ·try simp only [↓Da, Ua, J25, *, ↓reduceIte, reduceEqDiff, reduceAdd, reduceLT, reduceMul]
      have e0 := JhV p h
      exact e0
theorem Jnx {x0 : List UInt8} {x1 x2 : Int} {o : Int × Int} (h : J0g x0 x1 x2 = some o) : AF (J2 p) J7J [.p (.s x0), .p (.i .i64 x1), .p (.i .i64 x2)] [] = J7I o :=
 (J0r (J2 p) (Jn8 p) rfl).trans (Jiw p h)
theorem Jnj {x0 : List UInt8} {x1 x2 : Int} {o : Int × Int} (h : J0g x0 x1 x2 = some o) : ∀ ws new st, (Jj (AF (J2 p)) J7J ([.p (.s x0), .p (.i .i64 x1), .p (.i .i64 x2)], ws) 0 new).run st = some ⟨.tup [.p (.i .i64 o.1), .p (.i .i64 o.2)], ws⟩ := Jx rfl (Jnx p h) rfl
def Jb8  (r : Jc × T_pagemenddraw_Codes) : Option Res := some (.data (Jg r.1), [.box (List.map AV.p (J0 r.2))])
def J4h (b0 : T_pagemenddraw_Codes) : Option (Jc × T_pagemenddraw_Codes) :=
 Option.bind (JI b0 3) fun r1 =>
 if ((r1.1 : Int) == 0) then
  some ((⟨false, ([] : List UInt8)⟩ : Jc), r1.2)
 else
  Option.bind (J4i r1.2) fun r5 =>
  Option.bind (J2H r5.1 none (some (Jh9 ((List.length r5.1 : Nat) : Int) 12))) fun m8 =>
  some ((⟨true, m8⟩ : Jc), r5.2)
theorem JcO {b0 : T_pagemenddraw_Codes} {o : Jc × T_pagemenddraw_Codes} (h : J4h b0 = some o) :
  rk (J2 p) J48 1 [] (X (J2 p) J2X ⟨[(0, .ptr 0 0)], [.box (List.map AV.p (J0 b0))]⟩) = Jb8 o := by
 unfold J4h at h
 obtain ⟨r1, h2, h⟩ := bi h
 have f3 : ∀ ws new s, J07 ws s [0] [List.map AV.p (J0 b0)] → (Jj (AF (J2 p)) Jh ([.ptr 0 0, .p (.i .i64 3)], ws) 0 new).run s = some ⟨.p (.i .i64 r1.1), ws ++ [(0, .box (List.map AV.p (J0 r1.2)))]⟩ := JT (args' := [.ptr 0 0, .p (.i .i64 3)]) (bs := [0]) (css := [List.map AV.p (J0 b0)]) (css' := [List.map AV.p (J0 r1.2)]) rfl rfl rfl (by simp [Jm, Jf]) (JU p h2) rfl rfl (by simp [Jm, Jf])
 try simp only [Nf] at f3
 try simp only [↓Da, Ua, J2X, J5, Ja, *, ↓reduceIte, reduceEqDiff, reduceAdd, reduceLT, reduceMul]
 rcases Jb h with ⟨h4, h⟩ | ⟨h4, h⟩
 ·have h4n : ((r1.1 : Int) != 0) = false := by rw [bne, h4]; rfl
  obtain rfl := sj h
  try simp only [↓Da, Ua, J2X, J5, Ja, Jb6, *, ↓reduceIte, reduceEqDiff, reduceAdd, reduceLT, reduceMul]
  rfl
 ·have h4n : ((r1.1 : Int) != 0) = true := by rw [bne, h4]; rfl
  obtain ⟨r5, h6, h⟩ := bi h
  have f7 : ∀ ws new s, J07 ws s [0] [List.map AV.p (J0 r1.2)] → (Jj (AF (J2 p)) J4a ([.ptr 0 0], ws) 0 new).run s = some ⟨.p (.s r5.1), ws ++ [(0, .box (List.map AV.p (J0 r5.2)))]⟩ := JT (args' := [.ptr 0 0]) (bs := [0]) (css := [List.map AV.p (J0 r1.2)]) (css' := [List.map AV.p (J0 r5.2)]) rfl rfl rfl (by simp [Jm, Jf]) (JfN p h6) rfl rfl (by simp [Jm, Jf])
  try simp only [Nf] at f7
  obtain ⟨m8, h9, h⟩ := bi h
  have f10 : J3Y (.p (.s r5.1)) none (some (.p (.i .i64 (Jh9 ((List.length r5.1 : Nat) : Int) 12)))) = some (.p (.s m8)) := J6r (k := .i64) (lo := none) (hi := (some (Jh9 ((List.length r5.1 : Nat) : Int) 12))) h9
  try simp only [Nf] at f10
  obtain rfl := sj h
  try simp only [↓Da, Ua, J2X, J5, Ja, Jb6, *, ↓reduceIte, reduceEqDiff, reduceAdd, reduceLT, reduceMul]
  rfl
theorem Jgi {b0 : T_pagemenddraw_Codes} {o : Jc × T_pagemenddraw_Codes} (h : J4h b0 = some o) : AF (J2 p) J4c [.ptr 0 0] [.box (List.map AV.p (J0 b0))] = Jb8 o :=
 (J0r (J2 p) (Jg1 p) rfl).trans (JcO p h)
def Jeb  (r : (List UInt8)) : Option Res := some (.p (.s r), [])
def J2h (x0 : Int) : Option ((List UInt8)) :=
 Option.bind (mkS 1 x0 x0 0) fun m1 =>
 some (toStr m1)
theorem JfW {x0 : Int} {o : (List UInt8)} (h : J2h x0 = some o) :
  rk (J2 p) J5X 0 [] (X (J2 p) J7A ⟨[(0, .p (.i .i64 x0))], []⟩) = Jeb o := by
 unfold J2h at h
 obtain ⟨m1, h2, h⟩ := bi h
 have f3 : (0 ≤ (x0 : Int) ∧ (x0 : Int) ≤ x0 ∧ ((1 : Nat) : Int) * x0 ≤ 281474976710656 ∧ (x0 : Int) ≤ 281474976710656) = True := eq_true (J9E h2).1
 have f4 : List.replicate (Int.toNat x0) ((r_i .u8) 0) = List.map (r_i .u8) m1 := by rw [(J9E h2).2, List.map_replicate]
 try simp only [Nf] at f4
 obtain rfl := sj h
 try simp only [↓Da, Ua, J7A, Jl4, *, ↓reduceIte, reduceEqDiff, reduceAdd, reduceLT, reduceMul]
 rfl
theorem Jl2 {x0 : Int} {o : (List UInt8)} (h : J2h x0 = some o) : AF (J2 p) J3y [.p (.i .i64 x0)] [] = Jeb o :=
 (J0r (J2 p) (Jlb p) rfl).trans (JfW p h)
theorem Jb4 {x0 : Int} {o : (List UInt8)} (h : J2h x0 = some o) : ∀ ws new st, (Jj (AF (J2 p)) J3y ([.p (.i .i64 x0)], ws) 0 new).run st = some ⟨.p (.s o), ws⟩ := Jx rfl (Jl2 p h) rfl
def J7Q  (r : Int) : Option Res := some (.p (.i .u32 r), [])
def J7B (x0 : List UInt8) (o : (Int × Int) ⊕ (Int)) : Option Res := match o with
 | .inl s => rk (J2 p) J1d 0 [.bl 0, .sq (.keep [3] J1w)] (X (J2 p) (.lp 0 [0, 3, 4] J1k) ⟨[(0, .p (.s x0)), (3, .p (.i .u32 s.1)), (4, .p (.i .i64 s.2))], []⟩)
 | .inr o => J7Q o
def JdS (x0 : List UInt8) (x4 : Int) (o : (Int × Int) ⊕ (((Int × Int) ⊕ (Int)))) : Option Res := match o with
 | .inl s => rk (J2 p) J1d 0 [.bl 2, .bl 1, .sq (.keep [0, 3, 4] J4m), .lo 0 [0, 3, 4] J1k, .bl 0, .sq (.keep [3] J1w)] (X (J2 p) (.lp 0 [0, 3, 4, 5] J2m) ⟨[(0, .p (.s x0)), (3, .p (.i .u32 s.1)), (4, .p (.i .i64 x4)), (5, .p (.i .i64 s.2))], []⟩)
 | .inr o => (J7B p x0) o
def J7y (x0 : List UInt8) (x3 x4 x5 : Int) : Option (((Int × Int) ⊕ (((Int × Int) ⊕ (Int))))) :=
 some (.inl (x3, (IntKind.wrap .i64 (x5 + 1))))
theorem Je9 {x0 : List UInt8} {x3 x4 x5 : Int} {o : ((Int × Int) ⊕ (((Int × Int) ⊕ (Int))))} (h : J7y x0 x3 x4 x5 = some o) :
  rk (J2 p) J1d 0 [.lo 0 [0, 3, 4, 5] J2m, .bl 2, .bl 1, .sq (.keep [0, 3, 4] J4m), .lo 0 [0, 3, 4] J1k, .bl 0, .sq (.keep [3] J1w)] (X (J2 p) JaR ⟨[(0, .p (.s x0)), (3, .p (.i .u32 x3)), (4, .p (.i .i64 x4)), (5, .p (.i .i64 x5))], []⟩) = (JdS p x0 x4) o := by
 unfold J7y at h
 obtain rfl := sj h
 try simp only [↓Da, Ua, JaR, ↓reduceIte, reduceEqDiff, reduceAdd, reduceLT, reduceMul]
 rfl
def J9c (x0 : List UInt8) (x3 x4 : Int) : Option (((Int × Int) ⊕ (Int))) :=
 some (.inl (x3, (IntKind.wrap .i64 (x4 + 1))))
theorem Jkw {x0 : List UInt8} {x3 x4 : Int} {o : ((Int × Int) ⊕ (Int))} (h : J9c x0 x3 x4 = some o) :
  rk (J2 p) J1d 0 [.lo 0 [0, 3, 4] J1k, .bl 0, .sq (.keep [3] J1w)] (X (J2 p) J4m ⟨[(0, .p (.s x0)), (3, .p (.i .u32 x3)), (4, .p (.i .i64 x4))], []⟩) = (J7B p x0) o := by
 unfold J9c at h
 obtain rfl := sj h
 try simp only [↓Da, Ua, J4m, ↓reduceIte, reduceEqDiff, reduceAdd, reduceLT, reduceMul]
 rfl
def J5j (x0 : List UInt8) (x4 x3 x5 : Int) : Option (((Int × Int) ⊕ (((Int × Int) ⊕ (Int))))) :=
 if (decide (x5 < 8)) then
  if (((J4G .u32 x3 1) : Int) == 1) then
   Option.bind (J7V .u32 x3 1) fun q3 =>
   J7y x0 (J5S .u32 q3 2197175160) x4 x5
  else
   Option.bind (J7V .u32 x3 1) fun q5 =>
   J7y x0 q5 x4 x5
 else
  Option.map (fun o => .inr o) (J9c x0 x3 x4)
theorem Jei {x0 : List UInt8} {x4 x3 x5 : Int} {o : ((Int × Int) ⊕ (((Int × Int) ⊕ (Int))))} (h : J5j x0 x4 x3 x5 = some o) :
  rk (J2 p) J1d 0 [.lo 0 [0, 3, 4, 5] J2m, .bl 2, .bl 1, .sq (.keep [0, 3, 4] J4m), .lo 0 [0, 3, 4] J1k, .bl 0, .sq (.keep [3] J1w)] (X (J2 p) J2m ⟨[(0, .p (.s x0)), (3, .p (.i .u32 x3)), (4, .p (.i .i64 x4)), (5, .p (.i .i64 x5))], []⟩) = (JdS p x0 x4) o := by
 unfold J5j at h
 rcases Jb h with ⟨h1, h⟩ | ⟨h1, h⟩
 ·try simp only [↓Da, Ua, J2m, *, ↓reduceIte, reduceEqDiff, reduceAdd, reduceLT, reduceMul]
  rcases Jb h with ⟨h2, h⟩ | ⟨h2, h⟩
  ·have h2n : (((J4G .u32 x3 1) : Int) != 1) = false := by rw [bne, h2]; rfl
   obtain ⟨q3, h4, h⟩ := bi h
   try simp only [↓Da, Ua, J2m, *, ↓reduceIte, reduceEqDiff, reduceAdd, reduceLT, reduceMul]
   have e0 := Je9 p h
   exact e0
  ·have h2n : (((J4G .u32 x3 1) : Int) != 1) = true := by rw [bne, h2]; rfl
   obtain ⟨q5, h6, h⟩ := bi h
   try simp only [↓Da, Ua, J2m, *, ↓reduceIte, reduceEqDiff, reduceAdd, reduceLT, reduceMul]
   have e0 := Je9 p h
   exact e0
 ·obtain ⟨o', h', rfl⟩ := mi h
  try simp only [↓Da, Ua, J2m, *, ↓reduceIte, reduceEqDiff, reduceAdd, reduceLT, reduceMul]
  have e0 := Jkw p h'
  exact e0
def Je3 (x0 : List UInt8) (x4 : Int) (s : Int × Int) : Option (((Int × Int) ⊕ (Int))) :=
 Ju (fun s => J5j x0 x4 s.1 s.2) s
theorem Jim {x0 : List UInt8} {x4 : Int} {s : Int × Int} {o : ((Int × Int) ⊕ (Int))} (h : Je3 x0 x4 s = some o) :
  rk (J2 p) J1d 0 [.bl 2, .bl 1, .sq (.keep [0, 3, 4] J4m), .lo 0 [0, 3, 4] J1k, .bl 0, .sq (.keep [3] J1w)] (X (J2 p) (.lp 0 [0, 3, 4, 5] J2m) ⟨[(0, .p (.s x0)), (3, .p (.i .u32 s.1)), (4, .p (.i .i64 x4)), (5, .p (.i .i64 s.2))], []⟩) = (J7B p x0) o := by
 have h0 : Ju (fun s => J5j x0 x4 s.1 s.2) s = some o := h
 exact J0m (P := fun (s : Int × Int) (o : ((Int × Int) ⊕ (Int))) => rk (J2 p) J1d 0 [.bl 2, .bl 1, .sq (.keep [0, 3, 4] J4m), .lo 0 [0, 3, 4] J1k, .bl 0, .sq (.keep [3] J1w)] (X (J2 p) (.lp 0 [0, 3, 4, 5] J2m) ⟨[(0, .p (.s x0)), (3, .p (.i .u32 s.1)), (4, .p (.i .i64 x4)), (5, .p (.i .i64 s.2))], []⟩) = (J7B p x0) o) (fun s r hs => by rw [J0q]; exact Jei p hs) (fun s s1 r hs ih => by rw [J0q]; exact (Jei p hs).trans ih) h0
def J9k (x3 : Int) : Option (Int) :=
 some (Jjy .u32 x3)
theorem Jlg {x3 o : Int} (h : J9k x3 = some o) :
  rk (J2 p) J1d 0 [] (X (J2 p) J1w ⟨[(3, .p (.i .u32 x3))], []⟩) = J7Q o := by
 unfold J9k at h
 obtain rfl := sj h
 try simp only [↓Da, Ua, J1w, Jng, ↓reduceIte, reduceEqDiff, reduceAdd, reduceLT, reduceMul]
 rfl
def J5f (x0 : List UInt8) (x3 x4 : Int) : Option (((Int × Int) ⊕ (Int))) :=
 if (decide (x4 < ((List.length x0 : Nat) : Int))) then
  Option.bind (Jcu x0 x4) fun c2 =>
  Je3 x0 x4 ((J5S .u32 x3 (IntKind.wrap .u32 c2)), 0)
 else
  Option.map (fun o => .inr o) (J9k x3)
theorem Jeh {x0 : List UInt8} {x3 x4 : Int} {o : ((Int × Int) ⊕ (Int))} (h : J5f x0 x3 x4 = some o) :
  rk (J2 p) J1d 0 [.lo 0 [0, 3, 4] J1k, .bl 0, .sq (.keep [3] J1w)] (X (J2 p) J1k ⟨[(0, .p (.s x0)), (3, .p (.i .u32 x3)), (4, .p (.i .i64 x4))], []⟩) = (J7B p x0) o := by
 unfold J5f at h
 rcases Jb h with ⟨h1, h⟩ | ⟨h1, h⟩
 ·obtain ⟨c2, h3, h⟩ := bi h
  try simp only [↓Da, Ua, J1k, *, ↓reduceIte, reduceEqDiff, reduceAdd, reduceLT, reduceMul]
  have e0 := Jim p h
  exact e0
 ·obtain ⟨o', h', rfl⟩ := mi h
  try simp only [↓Da, Ua, J1k, *, ↓reduceIte, reduceEqDiff, reduceAdd, reduceLT, reduceMul]
  have e0 := Jlg p h'
  exact e0
def Jee (x0 : List UInt8) (s : Int × Int) : Option (Int) :=
 Ju (fun s => J5f x0 s.1 s.2) s
theorem Jij {x0 : List UInt8} {s : Int × Int} {o : Int} (h : Jee x0 s = some o) :
  rk (J2 p) J1d 0 [.bl 0, .sq (.keep [3] J1w)] (X (J2 p) (.lp 0 [0, 3, 4] J1k) ⟨[(0, .p (.s x0)), (3, .p (.i .u32 s.1)), (4, .p (.i .i64 s.2))], []⟩) = J7Q o := by
 have h0 : Ju (fun s => J5f x0 s.1 s.2) s = some o := h
 exact J0m (P := fun (s : Int × Int) (o : Int) => rk (J2 p) J1d 0 [.bl 0, .sq (.keep [3] J1w)] (X (J2 p) (.lp 0 [0, 3, 4] J1k) ⟨[(0, .p (.s x0)), (3, .p (.i .u32 s.1)), (4, .p (.i .i64 s.2))], []⟩) = J7Q o) (fun s r hs => by rw [J0q]; exact Jeh p hs) (fun s s1 r hs ih => by rw [J0q]; exact (Jeh p hs).trans ih) h0
def J6I (x0 : List UInt8) : Option (Int) :=
 Jee x0 (4294967295, 0)
theorem JiH {x0 : List UInt8} {o : Int} (h : J6I x0 = some o) :
  rk (J2 p) J1d 0 [] (X (J2 p) J8U ⟨[(0, .p (.s x0))], []⟩) = J7Q o := by
 unfold J6I at h
 try simp only [↓Da, Ua, J8U, ↓reduceIte, reduceEqDiff, reduceAdd, reduceLT, reduceMul]
 have e0 := Jij p h
 exact e0
theorem Jnr {x0 : List UInt8} {o : Int} (h : J6I x0 = some o) : AF (J2 p) J6G [.p (.s x0)] [] = J7Q o :=
 (J0r (J2 p) (JnG p) rfl).trans (JiH p h)
theorem JgD {x0 : List UInt8} {o : Int} (h : J6I x0 = some o) : ∀ ws new st, (Jj (AF (J2 p)) J6G ([.p (.s x0)], ws) 0 new).run st = some ⟨.p (.i .u32 o), ws⟩ := Jx rfl (Jnr p h) rfl
def J6X  (r : Bool) : Option Res := some (.p (.b r), [])
def Jjb (x6 : Vector Jc 16) (b0 : T_api_Page) (o : (Int) ⊕ (Bool)) : Option Res := match o with
 | .inl s => rk (J2 p) J2C 0 [.bl 0, .td 1 [2], .sq (.keep [] J4I)] (X (J2 p) (.lp 1 [1, 6, 7] J0z) ⟨[(1, .ptr 0 0), (6, .data ((J06 Jg) x6)), (7, .p (.i .i64 s))], [.box (List.map AV.p (J4 b0))]⟩)
 | .inr o => J6X o
def J7c  : Option (Bool) :=
 some true
theorem Jj1 {B0 : List PV} {o : Bool} (h : J7c = some o) :
  rk (J2 p) J2C 0 [] (X (J2 p) J4I ⟨[], [.box (List.map AV.p B0)]⟩) = J6X o := by
 unfold J7c at h
 obtain rfl := sj h
 try simp only [↓Da, Ua, J4I, Ja7, ↓reduceIte, reduceEqDiff, reduceAdd, reduceLT, reduceMul]
 rfl
def J0e (x6 : Vector Jc 16) (b0 : T_api_Page) (x7 : Int) : Option (((Int) ⊕ (Bool))) :=
 if (decide (x7 < 16)) then
  Option.bind (J80 x6 x7) fun y2 =>
  if (decide (((List.length y2.Data : Nat) : Int) > 12)) then
   some (.inr false)
  else
   if y2.Set then
    if ((b0.LSN : Int) == 0) then
     some (.inr false)
    else
     some (.inl (IntKind.wrap .i64 (x7 + 1)))
   else
    if (y2.Data == []) then
     some (.inl (IntKind.wrap .i64 (x7 + 1)))
    else
     some (.inr false)
 else
  Option.map (fun o => .inr o) (J7c)
theorem JcV {x6 : Vector Jc 16} {b0 : T_api_Page} {x7 : Int} {o : ((Int) ⊕ (Bool))} (h : J0e x6 b0 x7 = some o) :
  rk (J2 p) J2C 0 [.lo 1 [1, 6, 7] J0z, .bl 0, .td 1 [2], .sq (.keep [] J4I)] (X (J2 p) J0z ⟨[(1, .ptr 0 0), (6, .data ((J06 Jg) x6)), (7, .p (.i .i64 x7))], [.box (List.map AV.p (J4 b0))]⟩) = (Jjb p x6 b0) o := by
 unfold J0e at h
 rcases Jb h with ⟨h1, h⟩ | ⟨h1, h⟩
 ·obtain ⟨y2, h3, h⟩ := bi h
  have f4 : (0 ≤ (x7 : Int) ∧ (x7 : Int) < ((16 : Nat) : Int)) = True := eq_true (J4D h3).1
  have f5 : sub (J06 Jg x6) (Int.toNat x7 * 2) 2 = some (Jg y2) := J8T JV (J4D h3).2
  try simp only [Nf] at f5
  try simp only [↓Da, Ua, J0z, J5, J1, J3, *, ↓reduceIte, reduceEqDiff, reduceAdd, reduceLT, reduceMul]
  rcases Jb h with ⟨h6, h⟩ | ⟨h6, h⟩
  ·obtain rfl := sj h
   try simp only [↓Da, Ua, J0z, J5, J1, J3, Ja7, *, ↓reduceIte, reduceEqDiff, reduceAdd, reduceLT, reduceMul]
   rfl
  ·try simp only [↓Da, Ua, J0z, J5, J1, J3, *, ↓reduceIte, reduceEqDiff, reduceAdd, reduceLT, reduceMul]
   rcases Jb h with ⟨h7, h⟩ | ⟨h7, h⟩
   ·try simp only [↓Da, Ua, J0z, J5, J1, J3, *, ↓reduceIte, reduceEqDiff, reduceAdd, reduceLT, reduceMul]
    rcases Jb h with ⟨h8, h⟩ | ⟨h8, h⟩
    ·have h8n : ((b0.LSN : Int) != 0) = false := by rw [bne, h8]; rfl
     obtain rfl := sj h
     try simp only [↓Da, Ua, J0z, J5, J1, J3, Ja7, *, ↓reduceIte, reduceEqDiff, reduceAdd, reduceLT, reduceMul]
     rfl
    ·have h8n : ((b0.LSN : Int) != 0) = true := by rw [bne, h8]; rfl
     obtain rfl := sj h
     try simp only [↓Da, Ua, J0z, J5, J1, J3, *, ↓reduceIte, reduceEqDiff, reduceAdd, reduceLT, reduceMul]
     rfl
   ·try simp only [↓Da, Ua, J0z, J5, J1, J3, *, ↓reduceIte, reduceEqDiff, reduceAdd, reduceLT, reduceMul]
    rcases Jb h with ⟨h9, h⟩ | ⟨h9, h⟩
    ·obtain rfl := sj h
     try simp only [↓Da, Ua, J0z, J5, J1, J3, *, ↓reduceIte, reduceEqDiff, reduceAdd, reduceLT, reduceMul]
     rfl
    ·obtain rfl := sj h
     try simp only [↓Da, Ua, J0z, J5, J1, J3, Ja7, *, ↓reduceIte, reduceEqDiff, reduceAdd, reduceLT, reduceMul]
     rfl
 ·obtain ⟨o', h', rfl⟩ := mi h
  try simp only [↓Da, Ua, J0z, J5, J1, J3, *, ↓reduceIte, reduceEqDiff, reduceAdd, reduceLT, reduceMul]
  have e0 := Jj1 p (B0 := (J4 b0)) h'
  first | exact e0 | (simp only [*] at e0; exact e0)
def JcU (x6 : Vector Jc 16) (b0 : T_api_Page) (s : Int) : Option (Bool) :=
 Ju (fun s => J0e x6 b0 s) s
theorem JgX {x6 : Vector Jc 16} {b0 : T_api_Page} {s : Int} {o : Bool} (h : JcU x6 b0 s = some o) :
  rk (J2 p) J2C 0 [.bl 0, .td 1 [2], .sq (.keep [] J4I)] (X (J2 p) (.lp 1 [1, 6, 7] J0z) ⟨[(1, .ptr 0 0), (6, .data ((J06 Jg) x6)), (7, .p (.i .i64 s))], [.box (List.map AV.p (J4 b0))]⟩) = J6X o := by
 have h0 : Ju (fun s => J0e x6 b0 s) s = some o := h
 exact J0m (P := fun (s : Int) (o : Bool) => rk (J2 p) J2C 0 [.bl 0, .td 1 [2], .sq (.keep [] J4I)] (X (J2 p) (.lp 1 [1, 6, 7] J0z) ⟨[(1, .ptr 0 0), (6, .data ((J06 Jg) x6)), (7, .p (.i .i64 s))], [.box (List.map AV.p (J4 b0))]⟩) = J6X o) (fun s r hs => by rw [J0q]; exact JcV p hs) (fun s s1 r hs ih => by rw [J0q]; exact (JcV p hs).trans ih) h0
def J4X (x0 : T_api_Page) : Option (Bool) :=
 JcU x0.Cells x0 0
theorem JgV {x0 : T_api_Page} {o : Bool} (h : J4X x0 = some o) :
  rk (J2 p) J2C 0 [] (X (J2 p) J8i ⟨[(0, .data (J4 x0))], []⟩) = J6X o := by
 unfold J4X at h
 try simp only [↓Da, Ua, J8i, J5, J1, J3, ↓reduceIte, reduceEqDiff, reduceAdd, reduceLT, reduceMul]
 have e0 := JgX p h
 first | exact e0 | (simp only [*] at e0; exact e0)
theorem Jmd {x0 : T_api_Page} {o : Bool} (h : J4X x0 = some o) : AF (J2 p) J74 [.data (J4 x0)] [] = J6X o :=
 (J0r (J2 p) (JmH p) rfl).trans (JgV p h)
theorem JlA {x0 : T_api_Page} {o : Bool} (h : J4X x0 = some o) : ∀ ws new st, (Jj (AF (J2 p)) J74 ([.data (J4 x0)], ws) 0 new).run st = some ⟨.p (.b o), ws⟩ := Jx rfl (Jmd p h) rfl
end
end Go.Am
end
