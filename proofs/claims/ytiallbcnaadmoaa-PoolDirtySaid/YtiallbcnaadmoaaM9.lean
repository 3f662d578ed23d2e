/-
  Parts of a proof: YtiallbcnaadmoaaKTy, YtiallbcnaadmoaaKFns, YtiallbcnaadmoaaKS1.
-/
import Derived.Test.YtiallbcnaadmoaaM6
import Derived.Test.YtiallbcnaadmoaaM7
import Derived.Test.YtiallbcnaadmoaaM8
set_option linter.unusedSimpArgs false
set_option linter.unusedVariables false
section
namespace Go.Am
set_option maxRecDepth 8000
set_option maxHeartbeats 4000000
set_option linter.unusedSimpArgs false
set_option linter.unusedVariables false
structure Je where
  Set : Bool
  Data : List UInt8
  deriving DecidableEq
instance : Inhabited Je := ⟨⟨false, []⟩⟩
def Jf (x : Je) : List PV := (cat [.b x.Set] [.s x.Data])
theorem J07 (x : Je) : (Jf x).length = 2 := by
  simp only [cat, Jf, List.length_append, List.length_cons, List.length_nil]
theorem J8x (x : Je) : sub (Jf x) 0 1 = some [.b x.Set] := by unfold Jf; exact J5e rfl
theorem JcP (x : Je) (y : Bool) : spl (Jf x) 0 [.b y] = some (Jf ⟨y, x.Data⟩) := by unfold Jf; exact J5b rfl
theorem Jck (x : Je) : sub (Jf x) 1 1 = some [.s x.Data] := by
  have e0 : Jf x = cat [.b x.Set] [.s x.Data] := by unfold Jf; simp only [cat, List.append_assoc]
  rw [e0]; exact J6e (by simp only [cat, List.length_append, List.length_cons, List.length_nil]) rfl
theorem Jcp (x : Je) (y : List UInt8) : spl (Jf x) 1 [.s y] = some (Jf ⟨x.Set, y⟩) := by
  have e0 : Jf x = cat [.b x.Set] [.s x.Data] := by unfold Jf; simp only [cat, List.append_assoc]
  have e1 : Jf ⟨x.Set, y⟩ = cat [.b x.Set] [.s y] := by unfold Jf; simp only [cat, List.append_assoc]
  rw [e0, e1]; exact J6l (by simp only [cat, List.length_append, List.length_cons, List.length_nil]) rfl
theorem Jgl : (default : Je) = (⟨false, []⟩ : Je) := rfl
theorem JfL (x : Je) : sub (Jf x) 0 2 = some (Jf x) := J77 (J07 x)
theorem JfP (x y : Je) : spl (Jf x) 0 (Jf y) = some (Jf y) := J79 ((J07 x).trans (J07 y).symm)
theorem J2 : (∀ x : Je, (Jf x).length = 2) ∧
  (∀ x : Je, sub (Jf x) 0 1 = some [.b x.Set]) ∧
  (∀ (x : Je) (y : Bool), spl (Jf x) 0 [.b y] = some (Jf ⟨y, x.Data⟩)) ∧
  (∀ x : Je, sub (Jf x) 1 1 = some [.s x.Data]) ∧
  (∀ (x : Je) (y : List UInt8), spl (Jf x) 1 [.s y] = some (Jf ⟨x.Set, y⟩)) ∧
  ((default : Je) = (⟨false, []⟩ : Je)) ∧
  (∀ x : Je, sub (Jf x) 0 2 = some (Jf x)) ∧
  (∀ x y : Je, spl (Jf x) 0 (Jf y) = some (Jf y)) :=
  ⟨@J07, @J8x, @JcP, @Jck, @Jcp, Jgl, @JfL, @JfP⟩
theorem JK : (∀ x : Je, Jf x = (cat [.b x.Set] [.s x.Data])) ∧ (default : Je) = (⟨false, []⟩ : Je) := ⟨fun _ => rfl, rfl⟩
theorem J0 : (∀ v : Vector Je 16, (JM Jf v).length = 32) ∧ (∀ v : Vector Je 16, sub (JM Jf v) 0 32 = some (JM Jf v)) ∧ (∀ v y : Vector Je 16, spl (JM Jf v) 0 (JM Jf y) = some (JM Jf y)) :=
  ⟨fun v => J3t J07 v, fun v => J77 (J3t J07 v), fun v y => J79 ((J3t J07 v).trans (J3t J07 y).symm)⟩
structure J9 where
  ID : Int
  LSN : Int
  Cells : Vector Je 16
  deriving DecidableEq
instance : Inhabited J9 := ⟨⟨0, 0, (Vector.replicate 16 (⟨false, []⟩ : Je))⟩⟩
def Ja (x : J9) : List PV := (cat [.i .i64 x.ID] (cat [.i .i64 x.LSN] ((JM Jf) x.Cells)))
theorem J0V (x : J9) : (Ja x).length = 34 := by
  simp only [cat, Ja, (J3t J07 x.Cells), List.length_append, List.length_cons, List.length_nil]
theorem J4r (x : J9) : sub (Ja x) 0 1 = some [.i .i64 x.ID] := by unfold Ja; exact J5e rfl
theorem JdM (x : J9) (y : Int) : spl (Ja x) 0 [.i .i64 y] = some (Ja ⟨y, x.LSN, x.Cells⟩) := by unfold Ja; exact J5b rfl
theorem J2X (x : J9) : sub (Ja x) 1 1 = some [.i .i64 x.LSN] := by
  have e0 : Ja x = cat [.i .i64 x.ID] (cat [.i .i64 x.LSN] ((JM Jf) x.Cells)) := by unfold Ja; simp only [cat, List.append_assoc]
  rw [e0]; exact J61 (by simp only [cat, List.length_append, List.length_cons, List.length_nil, (J3t J07 x.Cells)]) rfl
theorem JcV (x : J9) (y : Int) : spl (Ja x) 1 [.i .i64 y] = some (Ja ⟨x.ID, y, x.Cells⟩) := by
  have e0 : Ja x = cat [.i .i64 x.ID] (cat [.i .i64 x.LSN] ((JM Jf) x.Cells)) := by unfold Ja; simp only [cat, List.append_assoc]
  have e1 : Ja ⟨x.ID, y, x.Cells⟩ = cat [.i .i64 x.ID] (cat [.i .i64 y] ((JM Jf) x.Cells)) := by unfold Ja; simp only [cat, List.append_assoc]
  rw [e0, e1]; exact J6c (by simp only [cat, List.length_append, List.length_cons, List.length_nil, (J3t J07 x.Cells)]) rfl
theorem J62 (x : J9) : sub (Ja x) 2 32 = some ((JM Jf) x.Cells) := by
  have e0 : Ja x = cat (cat [.i .i64 x.ID] [.i .i64 x.LSN]) ((JM Jf) x.Cells) := by unfold Ja; simp only [cat, List.append_assoc]
  rw [e0]; exact J6e (by simp only [cat, List.length_append, List.length_cons, List.length_nil, (J3t J07 x.Cells)]) (J3t J07 _)
theorem Jbx (x : J9) (y : Vector Je 16) : spl (Ja x) 2 ((JM Jf) y) = some (Ja ⟨x.ID, x.LSN, y⟩) := by
  have e0 : Ja x = cat (cat [.i .i64 x.ID] [.i .i64 x.LSN]) ((JM Jf) x.Cells) := by unfold Ja; simp only [cat, List.append_assoc]
  have e1 : Ja ⟨x.ID, x.LSN, y⟩ = cat (cat [.i .i64 x.ID] [.i .i64 x.LSN]) ((JM Jf) y) := by unfold Ja; simp only [cat, List.append_assoc]
  rw [e0, e1]; exact J6l (by simp only [cat, List.length_append, List.length_cons, List.length_nil, (J3t J07 x.Cells)]) ((J3t J07 _).trans (J3t J07 _).symm)
theorem JhG : (default : J9) = (⟨0, 0, (Vector.replicate 16 (⟨false, []⟩ : Je))⟩ : J9) := rfl
theorem Jg7 (x : J9) : sub (Ja x) 0 34 = some (Ja x) := J77 (J0V x)
theorem JfZ (x y : J9) : spl (Ja x) 0 (Ja y) = some (Ja y) := J79 ((J0V x).trans (J0V y).symm)
theorem J1 : (∀ x : J9, (Ja x).length = 34) ∧
  (∀ x : J9, sub (Ja x) 0 1 = some [.i .i64 x.ID]) ∧
  (∀ (x : J9) (y : Int), spl (Ja x) 0 [.i .i64 y] = some (Ja ⟨y, x.LSN, x.Cells⟩)) ∧
  (∀ x : J9, sub (Ja x) 1 1 = some [.i .i64 x.LSN]) ∧
  (∀ (x : J9) (y : Int), spl (Ja x) 1 [.i .i64 y] = some (Ja ⟨x.ID, y, x.Cells⟩)) ∧
  (∀ x : J9, sub (Ja x) 2 32 = some ((JM Jf) x.Cells)) ∧
  (∀ (x : J9) (y : Vector Je 16), spl (Ja x) 2 ((JM Jf) y) = some (Ja ⟨x.ID, x.LSN, y⟩)) ∧
  ((default : J9) = (⟨0, 0, (Vector.replicate 16 (⟨false, []⟩ : Je))⟩ : J9)) ∧
  (∀ x : J9, sub (Ja x) 0 34 = some (Ja x)) ∧
  (∀ x y : J9, spl (Ja x) 0 (Ja y) = some (Ja y)) :=
  ⟨@J0V, @J4r, @JdM, @J2X, @JcV, @J62, @Jbx, JhG, @Jg7, @JfZ⟩
structure T_api_Frame where
  Page : J9
  Dirty : Bool
  Rec : Int
  Used : Bool
  deriving DecidableEq
instance : Inhabited T_api_Frame := ⟨⟨(⟨0, 0, (Vector.replicate 16 (⟨false, []⟩ : Je))⟩ : J9), false, 0, false⟩⟩
def J3 (x : T_api_Frame) : List PV := (cat (Ja x.Page) (cat [.b x.Dirty] (cat [.i .i64 x.Rec] [.b x.Used])))
theorem J6U (x : T_api_Frame) : (J3 x).length = 37 := by
  simp only [cat, J3, J0V, List.length_append, List.length_cons, List.length_nil]
theorem J0K (x : T_api_Frame) : sub (J3 x) 0 34 = some (Ja x.Page) := by unfold J3; exact J5e (J0V _)
theorem Jbw (x : T_api_Frame) (y : J9) : spl (J3 x) 0 (Ja y) = some (J3 ⟨y, x.Dirty, x.Rec, x.Used⟩) := by unfold J3; exact J5b ((J0V _).trans (J0V _).symm)
theorem JaJ (x : T_api_Frame) : sub (J3 x) 34 1 = some [.b x.Dirty] := by
  have e0 : J3 x = cat (Ja x.Page) (cat [.b x.Dirty] (cat [.i .i64 x.Rec] [.b x.Used])) := by unfold J3; simp only [cat, List.append_assoc]
  rw [e0]; exact J61 (by simp only [cat, List.length_append, List.length_cons, List.length_nil, J0V]) rfl
theorem JaN (x : T_api_Frame) (y : Bool) : spl (J3 x) 34 [.b y] = some (J3 ⟨x.Page, y, x.Rec, x.Used⟩) := by
  have e0 : J3 x = cat (Ja x.Page) (cat [.b x.Dirty] (cat [.i .i64 x.Rec] [.b x.Used])) := by unfold J3; simp only [cat, List.append_assoc]
  have e1 : J3 ⟨x.Page, y, x.Rec, x.Used⟩ = cat (Ja x.Page) (cat [.b y] (cat [.i .i64 x.Rec] [.b x.Used])) := by unfold J3; simp only [cat, List.append_assoc]
  rw [e0, e1]; exact J6c (by simp only [cat, List.length_append, List.length_cons, List.length_nil, J0V]) rfl
theorem Jcf (x : T_api_Frame) : sub (J3 x) 35 1 = some [.i .i64 x.Rec] := by
  have e0 : J3 x = cat (cat (Ja x.Page) [.b x.Dirty]) (cat [.i .i64 x.Rec] [.b x.Used]) := by unfold J3; simp only [cat, List.append_assoc]
  rw [e0]; exact J61 (by simp only [cat, List.length_append, List.length_cons, List.length_nil, J0V]) rfl
theorem Jch (x : T_api_Frame) (y : Int) : spl (J3 x) 35 [.i .i64 y] = some (J3 ⟨x.Page, x.Dirty, y, x.Used⟩) := by
  have e0 : J3 x = cat (cat (Ja x.Page) [.b x.Dirty]) (cat [.i .i64 x.Rec] [.b x.Used]) := by unfold J3; simp only [cat, List.append_assoc]
  have e1 : J3 ⟨x.Page, x.Dirty, y, x.Used⟩ = cat (cat (Ja x.Page) [.b x.Dirty]) (cat [.i .i64 y] [.b x.Used]) := by unfold J3; simp only [cat, List.append_assoc]
  rw [e0, e1]; exact J6c (by simp only [cat, List.length_append, List.length_cons, List.length_nil, J0V]) rfl
theorem JbG (x : T_api_Frame) : sub (J3 x) 36 1 = some [.b x.Used] := by
  have e0 : J3 x = cat (cat (Ja x.Page) (cat [.b x.Dirty] [.i .i64 x.Rec])) [.b x.Used] := by unfold J3; simp only [cat, List.append_assoc]
  rw [e0]; exact J6e (by simp only [cat, List.length_append, List.length_cons, List.length_nil, J0V]) rfl
theorem Jbz (x : T_api_Frame) (y : Bool) : spl (J3 x) 36 [.b y] = some (J3 ⟨x.Page, x.Dirty, x.Rec, y⟩) := by
  have e0 : J3 x = cat (cat (Ja x.Page) (cat [.b x.Dirty] [.i .i64 x.Rec])) [.b x.Used] := by unfold J3; simp only [cat, List.append_assoc]
  have e1 : J3 ⟨x.Page, x.Dirty, x.Rec, y⟩ = cat (cat (Ja x.Page) (cat [.b x.Dirty] [.i .i64 x.Rec])) [.b y] := by unfold J3; simp only [cat, List.append_assoc]
  rw [e0, e1]; exact J6l (by simp only [cat, List.length_append, List.length_cons, List.length_nil, J0V]) rfl
theorem JfG : (default : T_api_Frame) = (⟨(⟨0, 0, (Vector.replicate 16 (⟨false, []⟩ : Je))⟩ : J9), false, 0, false⟩ : T_api_Frame) := rfl
theorem JeQ (x : T_api_Frame) : sub (J3 x) 0 37 = some (J3 x) := J77 (J6U x)
theorem JeZ (x y : T_api_Frame) : spl (J3 x) 0 (J3 y) = some (J3 y) := J79 ((J6U x).trans (J6U y).symm)
theorem J4 : (∀ x : T_api_Frame, (J3 x).length = 37) ∧
  (∀ x : T_api_Frame, sub (J3 x) 0 34 = some (Ja x.Page)) ∧
  (∀ (x : T_api_Frame) (y : J9), spl (J3 x) 0 (Ja y) = some (J3 ⟨y, x.Dirty, x.Rec, x.Used⟩)) ∧
  (∀ x : T_api_Frame, sub (J3 x) 34 1 = some [.b x.Dirty]) ∧
  (∀ (x : T_api_Frame) (y : Bool), spl (J3 x) 34 [.b y] = some (J3 ⟨x.Page, y, x.Rec, x.Used⟩)) ∧
  (∀ x : T_api_Frame, sub (J3 x) 35 1 = some [.i .i64 x.Rec]) ∧
  (∀ (x : T_api_Frame) (y : Int), spl (J3 x) 35 [.i .i64 y] = some (J3 ⟨x.Page, x.Dirty, y, x.Used⟩)) ∧
  (∀ x : T_api_Frame, sub (J3 x) 36 1 = some [.b x.Used]) ∧
  (∀ (x : T_api_Frame) (y : Bool), spl (J3 x) 36 [.b y] = some (J3 ⟨x.Page, x.Dirty, x.Rec, y⟩)) ∧
  ((default : T_api_Frame) = (⟨(⟨0, 0, (Vector.replicate 16 (⟨false, []⟩ : Je))⟩ : J9), false, 0, false⟩ : T_api_Frame)) ∧
  (∀ x : T_api_Frame, sub (J3 x) 0 37 = some (J3 x)) ∧
  (∀ x y : T_api_Frame, spl (J3 x) 0 (J3 y) = some (J3 y)) :=
  ⟨@J6U, @J0K, @Jbw, @JaJ, @JaN, @Jcf, @Jch, @JbG, @Jbz, JfG, @JeQ, @JeZ⟩
structure T_api_Pool where
  Size : Int
  Frames : List T_api_Frame
  Hand : Int
  deriving DecidableEq
instance : Inhabited T_api_Pool := ⟨⟨0, [], 0⟩⟩
def J6 (x : T_api_Pool) : List PV := (cat [.i .i64 x.Size] (cat [.sl 37 (List.map J3 x.Frames)] [.i .i64 x.Hand]))
theorem J7u (x : T_api_Pool) : (J6 x).length = 3 := by
  simp only [cat, J6, List.length_append, List.length_cons, List.length_nil]
theorem Jcj (x : T_api_Pool) : sub (J6 x) 0 1 = some [.i .i64 x.Size] := by unfold J6; exact J5e rfl
theorem Jcb (x : T_api_Pool) (y : Int) : spl (J6 x) 0 [.i .i64 y] = some (J6 ⟨y, x.Frames, x.Hand⟩) := by unfold J6; exact J5b rfl
theorem JaS (x : T_api_Pool) : sub (J6 x) 1 1 = some [.sl 37 (List.map J3 x.Frames)] := by
  have e0 : J6 x = cat [.i .i64 x.Size] (cat [.sl 37 (List.map J3 x.Frames)] [.i .i64 x.Hand]) := by unfold J6; simp only [cat, List.append_assoc]
  rw [e0]; exact J61 (by simp only [cat, List.length_append, List.length_cons, List.length_nil]) rfl
theorem JaR (x : T_api_Pool) (y : List T_api_Frame) : spl (J6 x) 1 [.sl 37 (List.map J3 y)] = some (J6 ⟨x.Size, y, x.Hand⟩) := by
  have e0 : J6 x = cat [.i .i64 x.Size] (cat [.sl 37 (List.map J3 x.Frames)] [.i .i64 x.Hand]) := by unfold J6; simp only [cat, List.append_assoc]
  have e1 : J6 ⟨x.Size, y, x.Hand⟩ = cat [.i .i64 x.Size] (cat [.sl 37 (List.map J3 y)] [.i .i64 x.Hand]) := by unfold J6; simp only [cat, List.append_assoc]
  rw [e0, e1]; exact J6c (by simp only [cat, List.length_append, List.length_cons, List.length_nil]) rfl
theorem Jcm (x : T_api_Pool) : sub (J6 x) 2 1 = some [.i .i64 x.Hand] := by
  have e0 : J6 x = cat (cat [.i .i64 x.Size] [.sl 37 (List.map J3 x.Frames)]) [.i .i64 x.Hand] := by unfold J6; simp only [cat, List.append_assoc]
  rw [e0]; exact J6e (by simp only [cat, List.length_append, List.length_cons, List.length_nil]) rfl
theorem Jct (x : T_api_Pool) (y : Int) : spl (J6 x) 2 [.i .i64 y] = some (J6 ⟨x.Size, x.Frames, y⟩) := by
  have e0 : J6 x = cat (cat [.i .i64 x.Size] [.sl 37 (List.map J3 x.Frames)]) [.i .i64 x.Hand] := by unfold J6; simp only [cat, List.append_assoc]
  have e1 : J6 ⟨x.Size, x.Frames, y⟩ = cat (cat [.i .i64 x.Size] [.sl 37 (List.map J3 x.Frames)]) [.i .i64 y] := by unfold J6; simp only [cat, List.append_assoc]
  rw [e0, e1]; exact J6l (by simp only [cat, List.length_append, List.length_cons, List.length_nil]) rfl
theorem Jhe : (default : T_api_Pool) = (⟨0, [], 0⟩ : T_api_Pool) := rfl
theorem Jg6 (x : T_api_Pool) : sub (J6 x) 0 3 = some (J6 x) := J77 (J7u x)
theorem JfV (x y : T_api_Pool) : spl (J6 x) 0 (J6 y) = some (J6 y) := J79 ((J7u x).trans (J7u y).symm)
theorem J8 : (∀ x : T_api_Pool, (J6 x).length = 3) ∧
  (∀ x : T_api_Pool, sub (J6 x) 0 1 = some [.i .i64 x.Size]) ∧
  (∀ (x : T_api_Pool) (y : Int), spl (J6 x) 0 [.i .i64 y] = some (J6 ⟨y, x.Frames, x.Hand⟩)) ∧
  (∀ x : T_api_Pool, sub (J6 x) 1 1 = some [.sl 37 (List.map J3 x.Frames)]) ∧
  (∀ (x : T_api_Pool) (y : List T_api_Frame), spl (J6 x) 1 [.sl 37 (List.map J3 y)] = some (J6 ⟨x.Size, y, x.Hand⟩)) ∧
  (∀ x : T_api_Pool, sub (J6 x) 2 1 = some [.i .i64 x.Hand]) ∧
  (∀ (x : T_api_Pool) (y : Int), spl (J6 x) 2 [.i .i64 y] = some (J6 ⟨x.Size, x.Frames, y⟩)) ∧
  ((default : T_api_Pool) = (⟨0, [], 0⟩ : T_api_Pool)) ∧
  (∀ x : T_api_Pool, sub (J6 x) 0 3 = some (J6 x)) ∧
  (∀ x y : T_api_Pool, spl (J6 x) 0 (J6 y) = some (J6 y)) :=
  ⟨@J7u, @Jcj, @Jcb, @JaS, @JaR, @Jcm, @Jct, Jhe, @Jg6, @JfV⟩
theorem JJ : (∀ x : T_api_Pool, J6 x = (cat [.i .i64 x.Size] (cat [.sl 37 (List.map J3 x.Frames)] [.i .i64 x.Hand]))) ∧ (default : T_api_Pool) = (⟨0, [], 0⟩ : T_api_Pool) := ⟨fun _ => rfl, rfl⟩
structure T_api_Dirty where
  Page : Int
  Rec : Int
  Last : Int
  deriving DecidableEq
instance : Inhabited T_api_Dirty := ⟨⟨0, 0, 0⟩⟩
def Jc (x : T_api_Dirty) : List PV := (cat [.i .i64 x.Page] (cat [.i .i64 x.Rec] [.i .i64 x.Last]))
theorem J6Y (x : T_api_Dirty) : (Jc x).length = 3 := by
  simp only [cat, Jc, List.length_append, List.length_cons, List.length_nil]
theorem Jbm (x : T_api_Dirty) : sub (Jc x) 0 1 = some [.i .i64 x.Page] := by unfold Jc; exact J5e rfl
theorem JbF (x : T_api_Dirty) (y : Int) : spl (Jc x) 0 [.i .i64 y] = some (Jc ⟨y, x.Rec, x.Last⟩) := by unfold Jc; exact J5b rfl
theorem Jcg (x : T_api_Dirty) : sub (Jc x) 1 1 = some [.i .i64 x.Rec] := by
  have e0 : Jc x = cat [.i .i64 x.Page] (cat [.i .i64 x.Rec] [.i .i64 x.Last]) := by unfold Jc; simp only [cat, List.append_assoc]
  rw [e0]; exact J61 (by simp only [cat, List.length_append, List.length_cons, List.length_nil]) rfl
theorem Jca (x : T_api_Dirty) (y : Int) : spl (Jc x) 1 [.i .i64 y] = some (Jc ⟨x.Page, y, x.Last⟩) := by
  have e0 : Jc x = cat [.i .i64 x.Page] (cat [.i .i64 x.Rec] [.i .i64 x.Last]) := by unfold Jc; simp only [cat, List.append_assoc]
  have e1 : Jc ⟨x.Page, y, x.Last⟩ = cat [.i .i64 x.Page] (cat [.i .i64 y] [.i .i64 x.Last]) := by unfold Jc; simp only [cat, List.append_assoc]
  rw [e0, e1]; exact J6c (by simp only [cat, List.length_append, List.length_cons, List.length_nil]) rfl
theorem Jbt (x : T_api_Dirty) : sub (Jc x) 2 1 = some [.i .i64 x.Last] := by
  have e0 : Jc x = cat (cat [.i .i64 x.Page] [.i .i64 x.Rec]) [.i .i64 x.Last] := by unfold Jc; simp only [cat, List.append_assoc]
  rw [e0]; exact J6e (by simp only [cat, List.length_append, List.length_cons, List.length_nil]) rfl
theorem Jbe (x : T_api_Dirty) (y : Int) : spl (Jc x) 2 [.i .i64 y] = some (Jc ⟨x.Page, x.Rec, y⟩) := by
  have e0 : Jc x = cat (cat [.i .i64 x.Page] [.i .i64 x.Rec]) [.i .i64 x.Last] := by unfold Jc; simp only [cat, List.append_assoc]
  have e1 : Jc ⟨x.Page, x.Rec, y⟩ = cat (cat [.i .i64 x.Page] [.i .i64 x.Rec]) [.i .i64 y] := by unfold Jc; simp only [cat, List.append_assoc]
  rw [e0, e1]; exact J6l (by simp only [cat, List.length_append, List.length_cons, List.length_nil]) rfl
theorem Jg9 : (default : T_api_Dirty) = (⟨0, 0, 0⟩ : T_api_Dirty) := rfl
theorem JeG (x : T_api_Dirty) : sub (Jc x) 0 3 = some (Jc x) := J77 (J6Y x)
theorem Jeq (x y : T_api_Dirty) : spl (Jc x) 0 (Jc y) = some (Jc y) := J79 ((J6Y x).trans (J6Y y).symm)
theorem J0u : (∀ x : T_api_Dirty, (Jc x).length = 3) ∧
  (∀ x : T_api_Dirty, sub (Jc x) 0 1 = some [.i .i64 x.Page]) ∧
  (∀ (x : T_api_Dirty) (y : Int), spl (Jc x) 0 [.i .i64 y] = some (Jc ⟨y, x.Rec, x.Last⟩)) ∧
  (∀ x : T_api_Dirty, sub (Jc x) 1 1 = some [.i .i64 x.Rec]) ∧
  (∀ (x : T_api_Dirty) (y : Int), spl (Jc x) 1 [.i .i64 y] = some (Jc ⟨x.Page, y, x.Last⟩)) ∧
  (∀ x : T_api_Dirty, sub (Jc x) 2 1 = some [.i .i64 x.Last]) ∧
  (∀ (x : T_api_Dirty) (y : Int), spl (Jc x) 2 [.i .i64 y] = some (Jc ⟨x.Page, x.Rec, y⟩)) ∧
  ((default : T_api_Dirty) = (⟨0, 0, 0⟩ : T_api_Dirty)) ∧
  (∀ x : T_api_Dirty, sub (Jc x) 0 3 = some (Jc x)) ∧
  (∀ x y : T_api_Dirty, spl (Jc x) 0 (Jc y) = some (Jc y)) :=
  ⟨@J6Y, @Jbm, @JbF, @Jcg, @Jca, @Jbt, @Jbe, Jg9, @JeG, @Jeq⟩
structure T_pagemenddraw_Codes where
  l_ : List Int
  at_ : Int
  deriving DecidableEq
instance : Inhabited T_pagemenddraw_Codes := ⟨⟨[], 0⟩⟩
def J7 (x : T_pagemenddraw_Codes) : List PV := (cat [.sl 1 (List.map (r_i .u8) x.l_)] [.i .i64 x.at_])
theorem J33 (x : T_pagemenddraw_Codes) : (J7 x).length = 2 := by
  simp only [cat, J7, List.length_append, List.length_cons, List.length_nil]
theorem J8l (x : T_pagemenddraw_Codes) : sub (J7 x) 0 1 = some [.sl 1 (List.map (r_i .u8) x.l_)] := by unfold J7; exact J5e rfl
theorem J8f (x : T_pagemenddraw_Codes) (y : List Int) : spl (J7 x) 0 [.sl 1 (List.map (r_i .u8) y)] = some (J7 ⟨y, x.at_⟩) := by unfold J7; exact J5b rfl
theorem J80 (x : T_pagemenddraw_Codes) : sub (J7 x) 1 1 = some [.i .i64 x.at_] := by
  have e0 : J7 x = cat [.sl 1 (List.map (r_i .u8) x.l_)] [.i .i64 x.at_] := by unfold J7; simp only [cat, List.append_assoc]
  rw [e0]; exact J6e (by simp only [cat, List.length_append, List.length_cons, List.length_nil]) rfl
theorem J7V (x : T_pagemenddraw_Codes) (y : Int) : spl (J7 x) 1 [.i .i64 y] = some (J7 ⟨x.l_, y⟩) := by
  have e0 : J7 x = cat [.sl 1 (List.map (r_i .u8) x.l_)] [.i .i64 x.at_] := by unfold J7; simp only [cat, List.append_assoc]
  have e1 : J7 ⟨x.l_, y⟩ = cat [.sl 1 (List.map (r_i .u8) x.l_)] [.i .i64 y] := by unfold J7; simp only [cat, List.append_assoc]
  rw [e0, e1]; exact J6l (by simp only [cat, List.length_append, List.length_cons, List.length_nil]) rfl
theorem J9m : (default : T_pagemenddraw_Codes) = (⟨[], 0⟩ : T_pagemenddraw_Codes) := rfl
theorem J8R (x : T_pagemenddraw_Codes) : sub (J7 x) 0 2 = some (J7 x) := J77 (J33 x)
theorem J8S (x y : T_pagemenddraw_Codes) : spl (J7 x) 0 (J7 y) = some (J7 y) := J79 ((J33 x).trans (J33 y).symm)
theorem Jh : (∀ x : T_pagemenddraw_Codes, (J7 x).length = 2) ∧
  (∀ x : T_pagemenddraw_Codes, sub (J7 x) 0 1 = some [.sl 1 (List.map (r_i .u8) x.l_)]) ∧
  (∀ (x : T_pagemenddraw_Codes) (y : List Int), spl (J7 x) 0 [.sl 1 (List.map (r_i .u8) y)] = some (J7 ⟨y, x.at_⟩)) ∧
  (∀ x : T_pagemenddraw_Codes, sub (J7 x) 1 1 = some [.i .i64 x.at_]) ∧
  (∀ (x : T_pagemenddraw_Codes) (y : Int), spl (J7 x) 1 [.i .i64 y] = some (J7 ⟨x.l_, y⟩)) ∧
  ((default : T_pagemenddraw_Codes) = (⟨[], 0⟩ : T_pagemenddraw_Codes)) ∧
  (∀ x : T_pagemenddraw_Codes, sub (J7 x) 0 2 = some (J7 x)) ∧
  (∀ x y : T_pagemenddraw_Codes, spl (J7 x) 0 (J7 y) = some (J7 y)) :=
  ⟨@J33, @J8l, @J8f, @J80, @J7V, J9m, @J8R, @J8S⟩
structure T_page_builder where
  s_ : List UInt8
  deriving DecidableEq
instance : Inhabited T_page_builder := ⟨⟨[]⟩⟩
def J0o (x : T_page_builder) : List PV := [.s x.s_]
theorem Jt : (∀ x : T_page_builder, J0o x = [.s x.s_]) ∧ (default : T_page_builder) = (⟨[]⟩ : T_page_builder) := ⟨fun _ => rfl, rfl⟩
theorem J4x : (∀ v : Vector Int 16, (JM (r_i .u32) v).length = 16) ∧ (∀ v : Vector Int 16, sub (JM (r_i .u32) v) 0 16 = some (JM (r_i .u32) v)) ∧ (∀ v y : Vector Int 16, spl (JM (r_i .u32) v) 0 (JM (r_i .u32) y) = some (JM (r_i .u32) y)) :=
  ⟨fun v => J3t (J7H .u32) v, fun v => J77 (J3t (J7H .u32) v), fun v y => J79 ((J3t (J7H .u32) v).trans (J3t (J7H .u32) y).symm)⟩
theorem Jeo (x y : T_api_Dirty) : J14 [(.i .i64), (.i .i64), (.i .i64)] (Jc x) (Jc y) = some (decide (x = y)) := by
  have h := (JiF (Jjq .i64 x.Page y.Page) (JiF (Jjq .i64 x.Rec y.Rec) (Jjq .i64 x.Last y.Last)))
  have e : decide (x.Page = y.Page ∧ (x.Rec = y.Rec ∧ (x.Last = y.Last))) = decide (x = y) := decide_eq_decide.2 (by cases x; cases y; simp only [T_api_Dirty.mk.injEq])
  exact h.trans (congrArg some e)
theorem J5m (x y : T_api_Dirty) : J14 [(.i .i64), (.i .i64), (.i .i64)] (Jc x) (Jc y) = some (x == y) := Jeo x y
def J5o : List PV → Option T_api_Dirty
  | [.i .i64 a0, .i .i64 a1, .i .i64 a2] => some ⟨a0, a1, a2⟩
  | _ => none
end Go.Am
end
section
namespace Go.Am
set_option maxRecDepth 8000
set_option maxHeartbeats 4000000
set_option linter.unusedSimpArgs false
set_option linter.unusedVariables false
abbrev J4I : FuncId := 16
abbrev J6f : FuncId := 19
abbrev J05 : FuncId := 31
abbrev J3m : FuncId := 37
abbrev J2x : FuncId := 48
abbrev J4d : FuncId := 76
abbrev J54 : FuncId := 77
abbrev J4n : FuncId := 78
abbrev J3Y : FuncId := 79
abbrev J4U : FuncId := 80
abbrev J50 : FuncId := 81
abbrev J5A : FuncId := 82
abbrev J6q : FuncId := 83
abbrev J3Z : FuncId := 84
abbrev J1n : FuncId := 87
abbrev J5z : FuncId := 92
abbrev J43 : FuncId := 102
abbrev J1f : FuncId := 108
abbrev J3h : FuncId := 128
abbrev J3V : FuncId := 129
abbrev J0E : FuncId := 130
abbrev J1I : FuncId := 131
abbrev J4A : FuncId := 132
abbrev J22 : FuncId := 162
abbrev JZ : FuncId := 163
abbrev J19 : FuncId := 164
abbrev J0p : FuncId := 165
abbrev J5P : FuncId := 166
abbrev J6H : FuncId := 167
abbrev J0B : FuncId := 168
abbrev Jz : FuncId := 169
abbrev J3f : FuncId := 170
abbrev J4f : FuncId := 171
abbrev J4M : FuncId := 172
abbrev J4K : FuncId := 184
abbrev J2c : FuncId := 191
abbrev JY : FuncId := 211
abbrev J0C : FuncId := 212
abbrev J5N : FuncId := 215
abbrev J2z : FuncId := 216
abbrev J89 : FuncId := 243
abbrev J8a : FuncId := 244
abbrev J6R : FuncId := 252
def J8C : Jk := .seq (.reg false [] [⟨.mv (.t 0), some 12, none⟩,
    ⟨.build (J7 default) [(0, 1, (.t 12))], some 13, none⟩,
    ⟨.box 2 (.t 13), some 14, none⟩,
    ⟨.mv (.t 14), some 4, none⟩])
  (.ret)
def J6p : Jk := .seq (.reg false [] [⟨.mv (.c (.p .np)), some 4, none⟩])
  (.seq (.seq (.reg false [] [⟨.mv (.t 0), some 5, none⟩,
    ⟨.len false (.t 5), some 6, none⟩,
    ⟨.mv (.t 1), some 7, none⟩,
    ⟨.bin .gtr .plain (.t 6) (.t 7), some 8, none⟩])
  (.keep [0, 1, 8] (.cond (.t 8)
  (.reg false [] [⟨.mv (.t 0), some 9, none⟩,
      ⟨.mv (.t 1), some 10, none⟩,
      ⟨.slice (.sl 1) (.t 9) none (some (.t 10)) none, some 11, none⟩,
      ⟨.mv (.t 11), some 0, none⟩])
  (.skip))))
  (.keep [0] J8C))
def J58 : AFn := ⟨2, 15, J6p, [.tmp 4], false⟩
def J0N : Jk := .seq (.reg false [] [⟨.mv (.c (.p (.i .i64 0))), some 4, none⟩])
  (.seq (.seq (.reg true [] [⟨.mv (.t 0), some 6, none⟩,
    ⟨.nilchk (.t 6), some 7, none⟩,
    ⟨.faddr 1 (.t 7), some 8, none⟩,
    ⟨.load false 1 (.t 8), some 9, none⟩,
    ⟨.mv (.t 0), some 10, none⟩,
    ⟨.nilchk (.t 10), some 11, none⟩,
    ⟨.faddr 0 (.t 11), some 12, none⟩,
    ⟨.load false 1 (.t 12), some 13, none⟩,
    ⟨.len false (.t 13), some 14, none⟩,
    ⟨.bin .geq .plain (.t 9) (.t 14), some 15, none⟩,
    ⟨.mv (.t 15), some 16, none⟩,
    ⟨.mv (.t 1), some 17, some (16, false)⟩,
    ⟨.bin .lss .plain (.t 17) (.c (.p (.i .i64 1))), some 18, some (16, false)⟩,
    ⟨.pick (.t 16) (.c (.p (.b true))) (.t 18), some 19, none⟩])
  (.keep [0, 1, 19] (.cond (.t 19)
  (.seq (.reg false [] [⟨.mv (.c (.p (.i .i64 0))), some 4, none⟩])
    (.ret))
  (.skip))))
  (.seq (.reg true [] [⟨.mv (.t 0), some 20, none⟩,
    ⟨.nilchk (.t 20), some 21, none⟩,
    ⟨.faddr 0 (.t 21), some 22, none⟩,
    ⟨.load false 1 (.t 22), some 23, none⟩,
    ⟨.mv (.t 0), some 24, none⟩,
    ⟨.nilchk (.t 24), some 25, none⟩,
    ⟨.faddr 1 (.t 25), some 26, none⟩,
    ⟨.load false 1 (.t 26), some 27, none⟩,
    ⟨.iaddr 1 (.t 23) (.t 27), some 28, none⟩,
    ⟨.load false 1 (.t 28), some 29, none⟩,
    ⟨.conv (.int .i64) (.t 29), some 30, none⟩,
    ⟨.mv (.t 30), some 5, none⟩])
  (.keep [0, 1, 5] (.seq (.reg false [] [⟨.mv (.t 0), some 31, none⟩,
    ⟨.nilchk (.t 31), some 32, none⟩,
    ⟨.faddr 1 (.t 32), some 33, none⟩,
    ⟨.load false 1 (.t 33), some 34, none⟩,
    ⟨.bin .add .plain (.t 34) (.c (.p (.i .i64 1))), some 35, none⟩,
    ⟨.nilchk (.t 31), some 36, none⟩,
    ⟨.faddr 1 (.t 36), some 37, none⟩,
    ⟨.store 1 (.t 37) (.t 35), none, none⟩])
  (.keep [0, 1, 5] (.seq (.seq (.reg false [] [⟨.mv (.t 1), some 38, none⟩,
    ⟨.bin .gtr .plain (.t 38) (.c (.p (.i .i64 256))), some 39, none⟩])
  (.cond (.t 39)
  (.seq (.reg false [] [⟨.mv (.t 5), some 40, none⟩,
      ⟨.bin .mul .plain (.c (.p (.i .i64 256))) (.t 40), some 41, none⟩,
      ⟨.mv (.t 0), some 42, none⟩,
      ⟨.call J05 [(.t 42), (.c (.p (.i .i64 256)))] 0, some 43, none⟩,
      ⟨.bin .add .plain (.t 41) (.t 43), some 44, none⟩,
      ⟨.mv (.t 1), some 45, none⟩,
      ⟨.bin .rem .plain (.t 44) (.t 45), some 46, none⟩,
      ⟨.mv (.t 46), some 4, none⟩])
    (.ret))
  (.skip)))
  (.seq (.reg false [] [⟨.mv (.t 5), some 47, none⟩,
    ⟨.mv (.t 1), some 48, none⟩,
    ⟨.bin .rem .plain (.t 47) (.t 48), some 49, none⟩,
    ⟨.mv (.t 49), some 4, none⟩])
  (.ret))))))))
def J2E : AFn := ⟨2, 50, J0N, [.tmp 4], false⟩
def J3q : Jk := .seq (.reg false [] [⟨.mv (.c (.p (.i .i64 0))), some 2, none⟩])
  (.seq (.reg true [] [⟨.mv (.t 0), some 3, none⟩,
    ⟨.nilchk (.t 3), some 4, none⟩,
    ⟨.faddr 0 (.t 4), some 5, none⟩,
    ⟨.load false 1 (.t 5), some 6, none⟩,
    ⟨.len false (.t 6), some 7, none⟩,
    ⟨.mv (.t 0), some 8, none⟩,
    ⟨.nilchk (.t 8), some 9, none⟩,
    ⟨.faddr 1 (.t 9), some 10, none⟩,
    ⟨.load false 1 (.t 10), some 11, none⟩,
    ⟨.bin .sub .plain (.t 7) (.t 11), some 12, none⟩,
    ⟨.mv (.t 12), some 2, none⟩])
  (.ret))
def J2y : AFn := ⟨1, 13, J3q, [.tmp 2], false⟩
def J4l : Jk := .seq (.reg false [] [⟨.newbox (J6 default), some 2, none⟩,
    ⟨.mv (.c (.p (.i .i64 0))), some 3, none⟩])
  (.seq (.seq (.reg false [] [⟨.mv (.t 0), some 4, none⟩,
    ⟨.bin .lss .plain (.t 4) (.c (.p (.i .i64 1))), some 5, none⟩,
    ⟨.mv (.t 5), some 6, none⟩,
    ⟨.mv (.t 0), some 7, some (6, false)⟩,
    ⟨.bin .gtr .plain (.t 7) (.c (.p (.i .i64 64))), some 8, some (6, false)⟩,
    ⟨.pick (.t 6) (.c (.p (.b true))) (.t 8), some 9, none⟩])
  (.keep [0, 2, 9] (.cond (.t 9)
  (.seq (.reg false [] [⟨.build (J6 default) [], some 10, none⟩,
      ⟨.store 3 (.t 2) (.t 10), none, none⟩,
      ⟨.mv (.c (.p (.i .i64 1))), some 3, none⟩])
    (.ret))
  (.skip))))
  (.seq (.reg false [] [⟨.mv (.t 0), some 11, none⟩,
    ⟨.build (J6 default) [(0, 1, (.t 11))], some 12, none⟩,
    ⟨.store 3 (.t 2) (.t 12), none, none⟩,
    ⟨.mv (.c (.p (.i .i64 0))), some 3, none⟩])
  (.ret)))
def J6z : AFn := ⟨1, 13, J4l, [.cell 2 true 3, .tmp 3], false⟩
def J0d : Jk := .seq (.reg false [] [⟨.bin .lss .plain (.t 7) (.c (.p (.i .i64 16))), some 8, none⟩])
  (.seq (.cond (.t 8)
  (.skip)
  (.exit 0))
  (.seq (.block 1 (.seq (.reg false [] [⟨.aidx true 16 2 (.t 6) (.t 7), some 9, none⟩,
    ⟨.newbox (Jf default), some 4, none⟩,
    ⟨.store 2 (.t 4) (.t 9), none, none⟩])
  (.keep [1, 4, 6, 7] (.seq (.reg false [] [⟨.faddr 1 (.t 4), some 10, none⟩,
    ⟨.load false 1 (.t 10), some 11, none⟩,
    ⟨.len true (.t 11), some 12, none⟩,
    ⟨.bin .gtr .plain (.t 12) (.c (.p (.i .i64 12))), some 13, none⟩,
    ⟨.mv (.t 13), some 14, none⟩,
    ⟨.faddr 0 (.t 4), some 15, some (14, false)⟩,
    ⟨.load false 1 (.t 15), some 16, some (14, false)⟩,
    ⟨.un .not (.t 16), some 17, some (14, false)⟩,
    ⟨.mv (.t 17), some 18, some (14, false)⟩,
    ⟨.faddr 1 (.t 4), some 19, some (18, true)⟩,
    ⟨.load false 1 (.t 19), some 20, some (18, true)⟩,
    ⟨.bin .neq .plain (.t 20) (.c (.p (.s []))), some 21, some (18, true)⟩,
    ⟨.pick (.t 18) (.t 21) (.c (.p (.b false))), some 22, some (14, false)⟩,
    ⟨.pick (.t 14) (.c (.p (.b true))) (.t 22), some 23, none⟩,
    ⟨.mv (.t 23), some 24, none⟩,
    ⟨.faddr 0 (.t 4), some 25, some (24, false)⟩,
    ⟨.load false 1 (.t 25), some 26, some (24, false)⟩,
    ⟨.mv (.t 26), some 27, some (24, false)⟩,
    ⟨.faddr 1 (.t 1), some 28, some (27, true)⟩,
    ⟨.load false 1 (.t 28), some 29, some (27, true)⟩,
    ⟨.bin .eql .plain (.t 29) (.c (.p (.i .i64 0))), some 30, some (27, true)⟩,
    ⟨.pick (.t 27) (.t 30) (.c (.p (.b false))), some 31, some (24, false)⟩,
    ⟨.pick (.t 24) (.c (.p (.b true))) (.t 31), some 32, none⟩])
  (.keep [1, 6, 7, 32] (.cond (.t 32)
  (.seq (.reg false [] [⟨.mv (.c (.p (.b false))), some 2, none⟩])
    (.ret))
  (.skip)))))))
  (.reg false [] [⟨.bin .add .plain (.t 7) (.c (.p (.i .i64 1))), some 33, none⟩,
    ⟨.mv (.t 33), some 7, none⟩])))
def J30 : Jk := .seq (.reg false [] [⟨.mv (.c (.p (.b true))), some 2, none⟩])
  (.ret)
def J69 : Jk := .seq (.reg false [] [⟨.box 34 (.t 0), some 1, none⟩,
    ⟨.mv (.c (.p (.b false))), some 2, none⟩])
  (.seq (.tidy [2] (.seq (.reg false [] [⟨.faddr 2 (.t 1), some 5, none⟩,
    ⟨.load true 32 (.t 5), some 6, none⟩,
    ⟨.mv (.c (.p (.i .i64 0))), some 7, none⟩])
  (.keep [1, 6, 7] (.block 0 (.loop [1, 6, 7] J0d)))))
  (.keep [] J30))
def J1H : AFn := ⟨1, 34, J69, [.tmp 2], false⟩
def J4N : Jk := .seq (.reg false [] [⟨.box 37 (.t 0), some 2, none⟩,
    ⟨.mv (.c (.p (.b false))), some 3, none⟩])
  (.seq (.reg false [] [⟨.faddr 0 (.t 2), some 4, none⟩,
    ⟨.faddr 0 (.t 4), some 5, none⟩,
    ⟨.load false 1 (.t 5), some 6, none⟩,
    ⟨.load false 1 (.t 1), some 7, none⟩,
    ⟨.bin .eql .plain (.t 6) (.t 7), some 8, none⟩,
    ⟨.mv (.t 8), some 3, none⟩])
  (.ret))
def J3K : AFn := ⟨2, 9, J4N, [.tmp 3], false⟩
def Jv : Jk := .seq (.reg false [] [⟨.bin .lss .plain (.t 8) (.t 7), some 9, none⟩])
  (.seq (.cond (.t 9)
  (.skip)
  (.exit 0))
  (.seq (.block 1 (.seq (.reg false [] [⟨.mv (.t 8), some 10, none⟩,
    ⟨.mv (.t 10), some 5, none⟩])
  (.seq (.reg false [] [⟨.mv (.t 1), some 11, none⟩,
    ⟨.mv (.t 0), some 12, none⟩,
    ⟨.mv (.t 5), some 13, none⟩,
    ⟨.iaddr 37 (.t 12) (.t 13), some 14, none⟩,
    ⟨.load true 37 (.t 14), some 15, none⟩,
    ⟨.callv (.t 11) [(.t 15)] 0, some 16, none⟩])
  (.keep [0, 1, 5, 7, 8, 16] (.cond (.t 16)
  (.seq (.reg false [] [⟨.mv (.t 5), some 17, none⟩,
      ⟨.mv (.t 17), some 4, none⟩])
    (.ret))
  (.skip))))))
  (.reg false [] [⟨.bin .add .plain (.t 8) (.c (.p (.i .i64 1))), some 18, none⟩,
    ⟨.mv (.t 18), some 8, none⟩])))
def JG : Jk := .seq (.reg false [] [⟨.mv (.c (.p (.i .i64 (-1)))), some 4, none⟩])
  (.ret)
def J0l : Jk := .seq (.reg false [] [⟨.mv (.c (.p (.i .i64 0))), some 4, none⟩])
  (.seq (.seq (.reg false [] [⟨.mv (.t 0), some 6, none⟩,
    ⟨.len false (.t 6), some 7, none⟩,
    ⟨.mv (.c (.p (.i .i64 0))), some 8, none⟩])
  (.keep [0, 1, 7, 8] (.block 0 (.loop [0, 1, 7, 8] Jv))))
  (.keep [] JG))
def Jq : AFn := ⟨2, 19, J0l, [.tmp 4], false⟩
def J6T : Jk := .seq (.reg false [] [⟨.box 3 (.t 0), some 2, none⟩,
    ⟨.box 1 (.t 1), some 3, none⟩,
    ⟨.mv (.c (.p (.i .i64 0))), some 4, none⟩])
  (.keep [2, 3] (.seq (.reg false [] [⟨.faddr 1 (.t 2), some 5, none⟩,
    ⟨.load false 1 (.t 5), some 6, none⟩,
    ⟨.mkfn J0C [] [(.t 3)], some 7, none⟩,
    ⟨.call JY [(.t 6), (.t 7)] 0, some 8, none⟩,
    ⟨.mv (.t 8), some 4, none⟩])
  (.ret)))
def J5s : AFn := ⟨2, 9, J6T, [.tmp 4], false⟩
def J0L : Jk := .seq (.reg false [] [⟨.mv (.c (.p (.sl 37 []))), some 2, none⟩])
  (.seq (.reg false [] [⟨.mv (.t 0), some 3, none⟩,
    ⟨.mv (.t 0), some 4, none⟩,
    ⟨.len false (.t 4), some 5, none⟩,
    ⟨.mv (.t 0), some 6, none⟩,
    ⟨.len false (.t 6), some 7, none⟩,
    ⟨.slice (.sl 37) (.t 3) none (some (.t 5)) (some (.t 7)), some 8, none⟩,
    ⟨.mv (.t 8), some 2, none⟩])
  (.ret))
def J0h : AFn := ⟨1, 9, J0L, [.tmp 2], false⟩
def J0H : J7s := ⟨1, 8, .reg false [] [⟨.mkarr 37 (.c (.p (.sl 37 []))), some 2, none⟩], [], .reg false [] [⟨.mv (.t 0), some 3, none⟩,
    ⟨.bin .eql .nils (.t 3) (.c (.p (.sl 37 []))), some 4, none⟩], (.t 4),
  .seq (.reg false [] [⟨.mkarr 37 (.c (.p (.sl 37 []))), some 2, none⟩])
  (.ret),
  .skip,
  .seq (.reg false [] [⟨.lits true 37 0 (J3 default) [], some 5, none⟩,
    ⟨.mv (.t 0), some 6, none⟩,
    ⟨.app 37 424 (J3 default) (.t 5) (.t 6), some 7, none⟩,
    ⟨.mv (.t 7), some 2, none⟩])
  (.ret), [.tmp 2], true⟩
def J1g : Jk := .seq (.reg false [] [⟨.box 34 (.t 0), some 1, none⟩,
    ⟨.mv (.c (.p (.b false))), some 2, none⟩])
  (.seq (.reg false [] [⟨.faddr 0 (.t 1), some 3, none⟩,
    ⟨.load false 1 (.t 3), some 4, none⟩,
    ⟨.bin .geq .plain (.t 4) (.c (.p (.i .i64 0))), some 5, none⟩,
    ⟨.mv (.t 5), some 6, none⟩,
    ⟨.faddr 0 (.t 1), some 7, some (6, true)⟩,
    ⟨.load false 1 (.t 7), some 8, some (6, true)⟩,
    ⟨.bin .lss .plain (.t 8) (.c (.p (.i .i64 64))), some 9, some (6, true)⟩,
    ⟨.pick (.t 6) (.t 9) (.c (.p (.b false))), some 10, none⟩,
    ⟨.mv (.t 10), some 11, none⟩,
    ⟨.faddr 1 (.t 1), some 12, some (11, true)⟩,
    ⟨.load false 1 (.t 12), some 13, some (11, true)⟩,
    ⟨.bin .geq .plain (.t 13) (.c (.p (.i .i64 0))), some 14, some (11, true)⟩,
    ⟨.pick (.t 11) (.t 14) (.c (.p (.b false))), some 15, none⟩,
    ⟨.mv (.t 15), some 16, none⟩,
    ⟨.faddr 1 (.t 1), some 17, some (16, true)⟩,
    ⟨.load false 1 (.t 17), some 18, some (16, true)⟩,
    ⟨.bin .leq .plain (.t 18) (.c (.p (.i .i64 1099511627776))), some 19, some (16, true)⟩,
    ⟨.pick (.t 16) (.t 19) (.c (.p (.b false))), some 20, none⟩,
    ⟨.mv (.t 20), some 2, none⟩])
  (.ret))
def J3d : AFn := ⟨1, 21, J1g, [.tmp 2], false⟩
def J4R : Jk := .seq (.reg false [] [⟨.mv (.c (.p (.b false))), some 2, none⟩])
  (.seq (.reg false [] [⟨.mv (.t 0), some 3, none⟩,
    ⟨.bin .geq .plain (.t 3) (.c (.p (.i .i64 0))), some 4, none⟩,
    ⟨.mv (.t 4), some 5, none⟩,
    ⟨.mv (.t 0), some 6, some (5, true)⟩,
    ⟨.bin .lss .plain (.t 6) (.c (.p (.i .i64 64))), some 7, some (5, true)⟩,
    ⟨.pick (.t 5) (.t 7) (.c (.p (.b false))), some 8, none⟩,
    ⟨.mv (.t 8), some 2, none⟩])
  (.ret))
def J4X : AFn := ⟨1, 9, J4R, [.tmp 2], false⟩
def J0w : Jk := .seq (.reg false [] [⟨.bin .lss .plain (.t 9) (.c (.p (.i .i64 4))), some 10, none⟩])
  (.seq (.cond (.t 10)
  (.skip)
  (.exit 2))
  (.seq (.block 3 (.seq (.reg false [] [⟨.mv (.t 3), some 11, none⟩,
    ⟨.bin .and .plain (.t 11) (.c (.p (.i .u32 1))), some 12, none⟩,
    ⟨.bin .eql .plain (.t 12) (.c (.p (.i .u32 1))), some 13, none⟩])
  (.keep [0, 1, 2, 3, 4, 9, 13] (.cond (.t 13)
  (.reg false [] [⟨.mv (.t 3), some 14, none⟩,
      ⟨.bin .shr .plain (.t 14) (.c (.p (.i .u64 1))), some 15, none⟩,
      ⟨.bin .xor .plain (.t 15) (.c (.p (.i .u32 2197175160))), some 16, none⟩,
      ⟨.mv (.t 16), some 3, none⟩])
  (.reg false [] [⟨.mv (.t 3), some 17, none⟩,
      ⟨.bin .shr .plain (.t 17) (.c (.p (.i .u64 1))), some 18, none⟩,
      ⟨.mv (.t 18), some 3, none⟩])))))
  (.reg false [] [⟨.bin .add .plain (.t 9) (.c (.p (.i .i64 1))), some 19, none⟩,
    ⟨.mv (.t 19), some 9, none⟩])))
def J1j : Jk := .reg false [] [⟨.mv (.t 2), some 20, none⟩,
    ⟨.mv (.t 3), some 21, none⟩,
    ⟨.aaddr 16 1 (.t 1) (.t 20), some 22, none⟩,
    ⟨.store 1 (.t 22) (.t 21), none, none⟩]
def J0S : Jk := .reg false [] [⟨.bin .add .plain (.t 4) (.c (.p (.i .i64 1))), some 23, none⟩,
    ⟨.mv (.t 23), some 4, none⟩]
def JO : Jk := .seq (.reg false [] [⟨.bin .lss .plain (.t 4) (.c (.p (.i .i64 16))), some 5, none⟩])
  (.seq (.cond (.t 5)
  (.skip)
  (.exit 0))
  (.seq (.block 1 (.seq (.reg false [] [⟨.mv (.t 4), some 6, none⟩,
    ⟨.mv (.t 6), some 2, none⟩])
  (.seq (.reg false [] [⟨.mv (.t 2), some 7, none⟩,
    ⟨.conv (.int .u32) (.t 7), some 8, none⟩,
    ⟨.mv (.t 8), some 3, none⟩])
  (.keep [0, 1, 2, 3, 4] (.seq (.seq (.reg false [] [⟨.mv (.c (.p (.i .i64 0))), some 9, none⟩])
  (.block 2 (.loop [0, 1, 2, 3, 4, 9] J0w)))
  (.keep [0, 1, 2, 3, 4] J1j))))))
  (.keep [0, 1, 4] J0S)))
def JR : Jk := .seq (.reg false [] [⟨.load true 16 (.t 1), some 24, none⟩,
    ⟨.store 16 (.t 0) (.t 24), none, none⟩])
  (.ret)
def J34 : Jk := .seq (.reg false [] [⟨.newbox (JM (r_i .u32) (Vector.replicate 16 (0 : Int))), some 0, none⟩])
  (.seq (.reg false [] [⟨.newbox (JM (r_i .u32) (Vector.replicate 16 (0 : Int))), some 1, none⟩])
  (.seq (.seq (.reg false [] [⟨.mv (.c (.p (.i .i64 0))), some 4, none⟩])
  (.block 0 (.loop [0, 1, 4] JO)))
  (.keep [0, 1] JR)))
def JF : AFn := ⟨0, 25, J34, [.cell 0 true 16], false⟩
def J7m : Jk := .seq (.reg false [] [⟨.mv (.c (.p (.b false))), some 2, none⟩])
  (.seq (.reg false [] [⟨.mv (.t 0), some 3, none⟩,
    ⟨.mv (.t 0), some 4, none⟩,
    ⟨.bin .neq .plain (.t 3) (.t 4), some 5, none⟩,
    ⟨.mv (.t 5), some 2, none⟩])
  (.ret))
def J93 : AFn := ⟨1, 6, J7m, [.tmp 2], false⟩
def J1u : Jk := .seq (.reg false [] [⟨.box 2 (.t 0), some 1, none⟩,
    ⟨.mv (.c (.p (.b false))), some 2, none⟩])
  (.seq (.reg false [] [⟨.faddr 1 (.t 1), some 3, none⟩,
    ⟨.load false 1 (.t 3), some 4, none⟩,
    ⟨.len true (.t 4), some 5, none⟩,
    ⟨.bin .leq .plain (.t 5) (.c (.p (.i .i64 12))), some 6, none⟩,
    ⟨.mv (.t 6), some 7, none⟩,
    ⟨.faddr 0 (.t 1), some 8, some (7, true)⟩,
    ⟨.load false 1 (.t 8), some 9, some (7, true)⟩,
    ⟨.mv (.t 9), some 10, some (7, true)⟩,
    ⟨.faddr 1 (.t 1), some 11, some (10, false)⟩,
    ⟨.load false 1 (.t 11), some 12, some (10, false)⟩,
    ⟨.bin .eql .plain (.t 12) (.c (.p (.s []))), some 13, some (10, false)⟩,
    ⟨.pick (.t 10) (.c (.p (.b true))) (.t 13), some 14, some (7, true)⟩,
    ⟨.pick (.t 7) (.t 14) (.c (.p (.b false))), some 15, none⟩,
    ⟨.mv (.t 15), some 2, none⟩])
  (.ret))
def J2C : AFn := ⟨1, 16, J1u, [.tmp 2], false⟩
def JaQ : Jk := .seq (.reg false [] [⟨.mv (.t 2), some 13, none⟩,
    ⟨.mv (.t 0), some 14, none⟩,
    ⟨.conv (.int .u8) (.t 14), some 15, none⟩,
    ⟨.sidx (.c (.p (.s [0, 1, 2, 2, 3, 3, 3, 3, 4, 4, 4, 4, 4, 4, 4, 4, 5, 5, 5, 5, 5, 5, 5, 5, 5, 5, 5, 5, 5, 5, 5, 5, 6, 6, 6, 6, 6, 6, 6, 6, 6, 6, 6, 6, 6, 6, 6, 6, 6, 6, 6, 6, 6, 6, 6, 6, 6, 6, 6, 6, 6, 6, 6, 6, 7, 7, 7, 7, 7, 7, 7, 7, 7, 7, 7, 7, 7, 7, 7, 7, 7, 7, 7, 7, 7, 7, 7, 7, 7, 7, 7, 7, 7, 7, 7, 7, 7, 7, 7, 7, 7, 7, 7, 7, 7, 7, 7, 7, 7, 7, 7, 7, 7, 7, 7, 7, 7, 7, 7, 7, 7, 7, 7, 7, 7, 7, 7, 7, 8, 8, 8, 8, 8, 8, 8, 8, 8, 8, 8, 8, 8, 8, 8, 8, 8, 8, 8, 8, 8, 8, 8, 8, 8, 8, 8, 8, 8, 8, 8, 8, 8, 8, 8, 8, 8, 8, 8, 8, 8, 8, 8, 8, 8, 8, 8, 8, 8, 8, 8, 8, 8, 8, 8, 8, 8, 8, 8, 8, 8, 8, 8, 8, 8, 8, 8, 8, 8, 8, 8, 8, 8, 8, 8, 8, 8, 8, 8, 8, 8, 8, 8, 8, 8, 8, 8, 8, 8, 8, 8, 8, 8, 8, 8, 8, 8, 8, 8, 8, 8, 8, 8, 8, 8, 8, 8, 8, 8, 8, 8, 8, 8, 8, 8, 8, 8, 8, 8, 8, 8, 8, 8, 8, 8, 8, 8, 8]))) (.t 15), some 16, none⟩,
    ⟨.conv (.int .i64) (.t 16), some 17, none⟩,
    ⟨.bin .add .plain (.t 13) (.t 17), some 18, none⟩,
    ⟨.mv (.t 18), some 2, none⟩])
  (.ret)
def JaO : Jk := .seq (.seq (.reg false [] [⟨.mv (.t 0), some 7, none⟩,
    ⟨.bin .geq .plain (.t 7) (.c (.p (.i .u32 256))), some 8, none⟩])
  (.cond (.t 8)
  (.seq (.reg false [] [⟨.mv (.t 0), some 9, none⟩,
      ⟨.bin .shr .plain (.t 9) (.c (.p (.i .u64 8))), some 10, none⟩,
      ⟨.mv (.t 10), some 0, none⟩])
    (.keep [0, 2] (.reg false [] [⟨.mv (.t 2), some 11, none⟩,
      ⟨.bin .add .plain (.t 11) (.c (.p (.i .i64 8))), some 12, none⟩,
      ⟨.mv (.t 12), some 2, none⟩])))
  (.skip)))
  (.keep [0, 2] JaQ)
def J6B : Jk := .seq (.reg false [] [⟨.mv (.c (.p (.i .i64 0))), some 2, none⟩])
  (.seq (.seq (.reg false [] [⟨.mv (.t 0), some 3, none⟩,
    ⟨.bin .geq .plain (.t 3) (.c (.p (.i .u32 65536))), some 4, none⟩])
  (.cond (.t 4)
  (.seq (.reg false [] [⟨.mv (.t 0), some 5, none⟩,
      ⟨.bin .shr .plain (.t 5) (.c (.p (.i .u64 16))), some 6, none⟩,
      ⟨.mv (.t 6), some 0, none⟩])
    (.keep [0] (.reg false [] [⟨.mv (.c (.p (.i .i64 16))), some 2, none⟩])))
  (.skip)))
  (.keep [0, 2] JaO))
def J87 : AFn := ⟨1, 19, J6B, [.tmp 2], false⟩
def JaM : Jk := .seq (.reg false [] [⟨.mv (.t 2), some 19, none⟩,
    ⟨.mv (.t 0), some 20, none⟩,
    ⟨.conv (.int .u8) (.t 20), some 21, none⟩,
    ⟨.sidx (.c (.p (.s [0, 1, 2, 2, 3, 3, 3, 3, 4, 4, 4, 4, 4, 4, 4, 4, 5, 5, 5, 5, 5, 5, 5, 5, 5, 5, 5, 5, 5, 5, 5, 5, 6, 6, 6, 6, 6, 6, 6, 6, 6, 6, 6, 6, 6, 6, 6, 6, 6, 6, 6, 6, 6, 6, 6, 6, 6, 6, 6, 6, 6, 6, 6, 6, 7, 7, 7, 7, 7, 7, 7, 7, 7, 7, 7, 7, 7, 7, 7, 7, 7, 7, 7, 7, 7, 7, 7, 7, 7, 7, 7, 7, 7, 7, 7, 7, 7, 7, 7, 7, 7, 7, 7, 7, 7, 7, 7, 7, 7, 7, 7, 7, 7, 7, 7, 7, 7, 7, 7, 7, 7, 7, 7, 7, 7, 7, 7, 7, 8, 8, 8, 8, 8, 8, 8, 8, 8, 8, 8, 8, 8, 8, 8, 8, 8, 8, 8, 8, 8, 8, 8, 8, 8, 8, 8, 8, 8, 8, 8, 8, 8, 8, 8, 8, 8, 8, 8, 8, 8, 8, 8, 8, 8, 8, 8, 8, 8, 8, 8, 8, 8, 8, 8, 8, 8, 8, 8, 8, 8, 8, 8, 8, 8, 8, 8, 8, 8, 8, 8, 8, 8, 8, 8, 8, 8, 8, 8, 8, 8, 8, 8, 8, 8, 8, 8, 8, 8, 8, 8, 8, 8, 8, 8, 8, 8, 8, 8, 8, 8, 8, 8, 8, 8, 8, 8, 8, 8, 8, 8, 8, 8, 8, 8, 8, 8, 8, 8, 8, 8, 8, 8, 8, 8, 8, 8, 8]))) (.t 21), some 22, none⟩,
    ⟨.conv (.int .i64) (.t 22), some 23, none⟩,
    ⟨.bin .add .plain (.t 19) (.t 23), some 24, none⟩,
    ⟨.mv (.t 24), some 2, none⟩])
  (.ret)
def JaL : Jk := .seq (.seq (.reg false [] [⟨.mv (.t 0), some 13, none⟩,
    ⟨.bin .geq .plain (.t 13) (.c (.p (.i .u64 256))), some 14, none⟩])
  (.cond (.t 14)
  (.seq (.reg false [] [⟨.mv (.t 0), some 15, none⟩,
      ⟨.bin .shr .plain (.t 15) (.c (.p (.i .u64 8))), some 16, none⟩,
      ⟨.mv (.t 16), some 0, none⟩])
    (.keep [0, 2] (.reg false [] [⟨.mv (.t 2), some 17, none⟩,
      ⟨.bin .add .plain (.t 17) (.c (.p (.i .i64 8))), some 18, none⟩,
      ⟨.mv (.t 18), some 2, none⟩])))
  (.skip)))
  (.keep [0, 2] JaM)
def JaP : Jk := .seq (.seq (.reg false [] [⟨.mv (.t 0), some 7, none⟩,
    ⟨.bin .geq .plain (.t 7) (.c (.p (.i .u64 65536))), some 8, none⟩])
  (.cond (.t 8)
  (.seq (.reg false [] [⟨.mv (.t 0), some 9, none⟩,
      ⟨.bin .shr .plain (.t 9) (.c (.p (.i .u64 16))), some 10, none⟩,
      ⟨.mv (.t 10), some 0, none⟩])
    (.keep [0, 2] (.reg false [] [⟨.mv (.t 2), some 11, none⟩,
      ⟨.bin .add .plain (.t 11) (.c (.p (.i .i64 16))), some 12, none⟩,
      ⟨.mv (.t 12), some 2, none⟩])))
  (.skip)))
  (.keep [0, 2] JaL)
def J6I : Jk := .seq (.reg false [] [⟨.mv (.c (.p (.i .i64 0))), some 2, none⟩])
  (.seq (.seq (.reg false [] [⟨.mv (.t 0), some 3, none⟩,
    ⟨.bin .geq .plain (.t 3) (.c (.p (.i .u64 4294967296))), some 4, none⟩])
  (.cond (.t 4)
  (.seq (.reg false [] [⟨.mv (.t 0), some 5, none⟩,
      ⟨.bin .shr .plain (.t 5) (.c (.p (.i .u64 32))), some 6, none⟩,
      ⟨.mv (.t 6), some 0, none⟩])
    (.keep [0] (.reg false [] [⟨.mv (.c (.p (.i .i64 32))), some 2, none⟩])))
  (.skip)))
  (.keep [0, 2] JaP))
def J88 : AFn := ⟨1, 25, J6I, [.tmp 2], false⟩
def J4C : Jk := .seq (.reg false [] [⟨.mv (.c (.p (.i .u64 0))), some 2, none⟩])
  (.seq (.reg true [] [⟨.mv (.t 0), some 3, none⟩,
    ⟨.nilchk (.t 3), some 4, none⟩,
    ⟨.load false 1 (.t 4), some 5, none⟩,
    ⟨.mv (.t 0), some 6, none⟩,
    ⟨.nilchk (.t 6), some 7, none⟩,
    ⟨.load false 1 (.t 7), some 8, none⟩,
    ⟨.bin .shl .plain (.t 8) (.c (.p (.i .u64 13))), some 9, none⟩,
    ⟨.bin .xor .plain (.t 5) (.t 9), some 10, none⟩,
    ⟨.nilchk (.t 3), some 11, none⟩,
    ⟨.store 1 (.t 11) (.t 10), none, none⟩])
  (.keep [0] (.seq (.reg true [] [⟨.mv (.t 0), some 12, none⟩,
    ⟨.nilchk (.t 12), some 13, none⟩,
    ⟨.load false 1 (.t 13), some 14, none⟩,
    ⟨.mv (.t 0), some 15, none⟩,
    ⟨.nilchk (.t 15), some 16, none⟩,
    ⟨.load false 1 (.t 16), some 17, none⟩,
    ⟨.bin .shr .plain (.t 17) (.c (.p (.i .u64 7))), some 18, none⟩,
    ⟨.bin .xor .plain (.t 14) (.t 18), some 19, none⟩,
    ⟨.nilchk (.t 12), some 20, none⟩,
    ⟨.store 1 (.t 20) (.t 19), none, none⟩])
  (.keep [0] (.seq (.reg true [] [⟨.mv (.t 0), some 21, none⟩,
    ⟨.nilchk (.t 21), some 22, none⟩,
    ⟨.load false 1 (.t 22), some 23, none⟩,
    ⟨.mv (.t 0), some 24, none⟩,
    ⟨.nilchk (.t 24), some 25, none⟩,
    ⟨.load false 1 (.t 25), some 26, none⟩,
    ⟨.bin .shl .plain (.t 26) (.c (.p (.i .u64 17))), some 27, none⟩,
    ⟨.bin .xor .plain (.t 23) (.t 27), some 28, none⟩,
    ⟨.nilchk (.t 21), some 29, none⟩,
    ⟨.store 1 (.t 29) (.t 28), none, none⟩])
  (.keep [0] (.seq (.reg false [] [⟨.mv (.t 0), some 30, none⟩,
    ⟨.nilchk (.t 30), some 31, none⟩,
    ⟨.load false 1 (.t 31), some 32, none⟩,
    ⟨.mv (.t 32), some 2, none⟩])
  (.ret))))))))
def J6N : AFn := ⟨1, 33, J4C, [.tmp 2], false⟩
def J2a : Jk := .seq (.reg false [] [⟨.box 34 (.t 0), some 1, none⟩,
    ⟨.mv (.c (.p (.b false))), some 2, none⟩])
  (.seq (.reg false [] [⟨.faddr 0 (.t 1), some 3, none⟩,
    ⟨.load false 1 (.t 3), some 4, none⟩,
    ⟨.call J4K [(.t 4)] 0, some 5, none⟩,
    ⟨.mv (.t 5), some 6, none⟩,
    ⟨.faddr 1 (.t 1), some 7, some (6, true)⟩,
    ⟨.load false 1 (.t 7), some 8, some (6, true)⟩,
    ⟨.bin .geq .plain (.t 8) (.c (.p (.i .i64 0))), some 9, some (6, true)⟩,
    ⟨.pick (.t 6) (.t 9) (.c (.p (.b false))), some 10, none⟩,
    ⟨.mv (.t 10), some 11, none⟩,
    ⟨.faddr 1 (.t 1), some 12, some (11, true)⟩,
    ⟨.load false 1 (.t 12), some 13, some (11, true)⟩,
    ⟨.bin .leq .plain (.t 13) (.c (.p (.i .i64 1099511627776))), some 14, some (11, true)⟩,
    ⟨.pick (.t 11) (.t 14) (.c (.p (.b false))), some 15, none⟩,
    ⟨.mv (.t 15), some 2, none⟩])
  (.ret))
def J40 : AFn := ⟨1, 16, J2a, [.tmp 2], false⟩
def J4L : Jk := .reg true [(6, 8), (6, 11), (8, 14)] [⟨.mv (.t 0), some 10, none⟩,
    ⟨.mv (.t 0), some 11, none⟩,
    ⟨.nilchk (.t 11), some 12, none⟩,
    ⟨.faddr 0 (.t 12), some 13, none⟩,
    ⟨.load false 1 (.t 13), some 14, none⟩,
    ⟨.mv (.t 4), some 15, none⟩,
    ⟨.call J1f [(.t 14), (.t 15), (.c (.p (.i .i64 1)))] 0, some 16, none⟩,
    ⟨.faddr 1 (.t 3), some 17, none⟩,
    ⟨.load false 1 (.t 17), some 18, none⟩,
    ⟨.bin .add .plain (.t 16) (.t 18), some 19, none⟩,
    ⟨.faddr 1 (.t 3), some 20, none⟩,
    ⟨.load false 1 (.t 20), some 21, none⟩,
    ⟨.len true (.t 21), some 22, none⟩,
    ⟨.bin .sub .plain (.c (.p (.i .i64 12))) (.t 22), some 23, none⟩,
    ⟨.call J1I [(.c (.p (.s [0]))), (.t 23)] 0, some 24, none⟩,
    ⟨.bin .add .plain (.t 19) (.t 24), some 25, none⟩,
    ⟨.nilchk (.t 10), some 26, none⟩,
    ⟨.faddr 0 (.t 26), some 27, none⟩,
    ⟨.store 1 (.t 27) (.t 25), none, none⟩]
def J1V : Jk := .seq (.reg false [] [⟨.box 2 (.t 1), some 3, none⟩])
  (.seq (.reg false [] [⟨.mv (.c (.p (.i .i64 255))), some 4, none⟩])
  (.seq (.seq (.reg false [] [⟨.faddr 0 (.t 3), some 5, none⟩,
    ⟨.load false 1 (.t 5), some 6, none⟩])
  (.cond (.t 6)
  (.reg false [] [⟨.faddr 1 (.t 3), some 7, none⟩,
      ⟨.load false 1 (.t 7), some 8, none⟩,
      ⟨.len true (.t 8), some 9, none⟩,
      ⟨.mv (.t 9), some 4, none⟩])
  (.skip)))
  (.keep [0, 3, 4] J4L)))
def J1v : AFn := ⟨2, 28, J1V, [], false⟩
def J2H : Jk := .seq (.reg false [] [⟨.bin .lss .plain (.t 9) (.t 8), some 10, none⟩])
  (.seq (.cond (.t 10)
  (.skip)
  (.exit 0))
  (.seq (.block 1 (.seq (.reg false [] [⟨.mv (.t 9), some 11, none⟩,
    ⟨.mv (.t 11), some 5, none⟩])
  (.seq (.reg false [] [⟨.mv (.t 4), some 12, none⟩,
    ⟨.mv (.t 0), some 13, none⟩,
    ⟨.mv (.t 5), some 14, none⟩,
    ⟨.sidx (.t 13) (.t 14), some 15, none⟩,
    ⟨.conv (.int .u32) (.t 15), some 16, none⟩,
    ⟨.bin .xor .plain (.t 12) (.t 16), some 17, none⟩,
    ⟨.mv (.t 17), some 4, none⟩])
  (.keep [0, 3, 4, 8, 9] (.seq (.reg false [] [⟨.mv (.t 4), some 18, none⟩,
    ⟨.bin .shr .plain (.t 18) (.c (.p (.i .u64 4))), some 19, none⟩,
    ⟨.mv (.t 4), some 20, none⟩,
    ⟨.bin .and .plain (.t 20) (.c (.p (.i .u32 15))), some 21, none⟩,
    ⟨.aaddr 16 1 (.t 3) (.t 21), some 22, none⟩,
    ⟨.load false 1 (.t 22), some 23, none⟩,
    ⟨.bin .xor .plain (.t 19) (.t 23), some 24, none⟩,
    ⟨.mv (.t 24), some 4, none⟩])
  (.keep [0, 3, 4, 8, 9] (.reg false [] [⟨.mv (.t 4), some 25, none⟩,
    ⟨.bin .shr .plain (.t 25) (.c (.p (.i .u64 4))), some 26, none⟩,
    ⟨.mv (.t 4), some 27, none⟩,
    ⟨.bin .and .plain (.t 27) (.c (.p (.i .u32 15))), some 28, none⟩,
    ⟨.aaddr 16 1 (.t 3) (.t 28), some 29, none⟩,
    ⟨.load false 1 (.t 29), some 30, none⟩,
    ⟨.bin .xor .plain (.t 26) (.t 30), some 31, none⟩,
    ⟨.mv (.t 31), some 4, none⟩])))))))
  (.reg false [] [⟨.bin .add .plain (.t 9) (.c (.p (.i .i64 1))), some 32, none⟩,
    ⟨.mv (.t 32), some 9, none⟩])))
def J3p : Jk := .seq (.reg false [] [⟨.mv (.t 4), some 33, none⟩,
    ⟨.un .xor (.t 33), some 34, none⟩,
    ⟨.mv (.t 34), some 2, none⟩])
  (.ret)
def J6K : Jk := .seq (.reg false [] [⟨.mv (.c (.p (.i .u32 0))), some 2, none⟩])
  (.seq (.reg false [] [⟨.call J2c [] 0, some 6, none⟩,
    ⟨.newbox (JM (r_i .u32) (Vector.replicate 16 (0 : Int))), some 3, none⟩,
    ⟨.store 16 (.t 3) (.t 6), none, none⟩])
  (.keep [0, 3] (.seq (.reg false [] [⟨.mv (.c (.p (.i .u32 4294967295))), some 4, none⟩])
  (.seq (.seq (.reg false [] [⟨.mv (.t 0), some 7, none⟩,
    ⟨.len true (.t 7), some 8, none⟩,
    ⟨.mv (.c (.p (.i .i64 0))), some 9, none⟩])
  (.keep [0, 3, 4, 8, 9] (.block 0 (.loop [0, 3, 4, 8, 9] J2H))))
  (.keep [4] J3p)))))
def J23 : AFn := ⟨1, 35, J6K, [.tmp 2], false⟩
def J2b : Jk := .seq (.reg false [] [⟨.box 37 (.t 2), some 5, none⟩,
    ⟨.mv (.c (.p (.sl 37 []))), some 6, none⟩])
  (.seq (.reg false [] [⟨.mv (.t 0), some 7, none⟩,
    ⟨.call Jz [(.t 7)] 1, some 8, none⟩,
    ⟨.mv (.t 8), some 0, none⟩])
  (.keep [0, 1, 5] (.seq (.reg false [] [⟨.mv (.t 0), some 9, none⟩,
    ⟨.mv (.t 1), some 10, none⟩,
    ⟨.load true 37 (.t 5), some 11, none⟩,
    ⟨.iaddr 37 (.t 9) (.t 10), some 12, none⟩,
    ⟨.store 37 (.t 12) (.t 11), none, none⟩])
  (.keep [0] (.seq (.reg false [] [⟨.mv (.t 0), some 13, none⟩,
    ⟨.mv (.t 13), some 6, none⟩])
  (.ret))))))
def J1z : AFn := ⟨3, 14, J2b, [.tmp 6], false⟩
def J6F : Jk := .seq (.reg false [] [⟨.mv (.c (.p (.i .i64 0))), some 4, none⟩])
  (.seq (.reg false [] [⟨.mv (.t 0), some 7, none⟩,
    ⟨.call J5N [(.t 7)] 0, some 8, none⟩,
    ⟨.mv (.t 8), some 5, none⟩])
  (.keep [0, 1, 5] (.seq (.reg false [] [⟨.mv (.t 1), some 9, none⟩,
    ⟨.call J5N [(.t 9)] 0, some 10, none⟩,
    ⟨.mv (.t 10), some 6, none⟩])
  (.keep [0, 1, 5, 6] (.seq (.seq (.reg false [] [⟨.mv (.t 5), some 11, none⟩])
  (.cond (.t 11)
  (.seq (.seq (.reg false [] [⟨.mv (.t 6), some 12, none⟩])
    (.cond (.t 12)
    (.seq (.reg false [] [⟨.mv (.c (.p (.i .i64 0))), some 4, none⟩])
      (.ret))
    (.skip)))
    (.seq (.reg false [] [⟨.mv (.c (.p (.i .i64 (-1)))), some 4, none⟩])
    (.ret)))
  (.skip)))
  (.seq (.seq (.reg false [] [⟨.mv (.t 6), some 13, none⟩])
  (.cond (.t 13)
  (.seq (.reg false [] [⟨.mv (.c (.p (.i .i64 1))), some 4, none⟩])
    (.ret))
  (.skip)))
  (.seq (.seq (.reg false [] [⟨.mv (.t 0), some 14, none⟩,
    ⟨.mv (.t 1), some 15, none⟩,
    ⟨.bin .lss .plain (.t 14) (.t 15), some 16, none⟩])
  (.keep [0, 1, 16] (.cond (.t 16)
  (.seq (.reg false [] [⟨.mv (.c (.p (.i .i64 (-1)))), some 4, none⟩])
    (.ret))
  (.skip))))
  (.seq (.seq (.reg false [] [⟨.mv (.t 0), some 17, none⟩,
    ⟨.mv (.t 1), some 18, none⟩,
    ⟨.bin .gtr .plain (.t 17) (.t 18), some 19, none⟩])
  (.keep [19] (.cond (.t 19)
  (.seq (.reg false [] [⟨.mv (.c (.p (.i .i64 1))), some 4, none⟩])
    (.ret))
  (.skip))))
  (.seq (.reg false [] [⟨.mv (.c (.p (.i .i64 0))), some 4, none⟩])
  (.ret))))))))))
def J8b : AFn := ⟨2, 20, J6F, [.tmp 4], false⟩
def J0n : Jk := .seq (.seq (.reg false [] [⟨.mv (.t 3), some 4, none⟩,
    ⟨.bin .lss .plain (.t 4) (.c (.p (.i .i64 16))), some 5, none⟩])
  (.cond (.t 5)
  (.skip)
  (.exit 0)))
  (.seq (.block 1 (.seq (.reg false [] [⟨.mv (.t 3), some 8, none⟩,
    ⟨.faddr 2 (.t 1), some 9, none⟩,
    ⟨.aaddr 16 2 (.t 9) (.t 8), some 10, none⟩,
    ⟨.load true 2 (.t 10), some 11, none⟩,
    ⟨.call J2z [(.t 11)] 0, some 12, none⟩,
    ⟨.un .not (.t 12), some 13, none⟩,
    ⟨.mv (.t 13), some 14, none⟩,
    ⟨.faddr 1 (.t 1), some 15, some (14, false)⟩,
    ⟨.load false 1 (.t 15), some 16, some (14, false)⟩,
    ⟨.bin .eql .plain (.t 16) (.c (.p (.i .i64 0))), some 17, some (14, false)⟩,
    ⟨.mv (.t 17), some 18, some (14, false)⟩,
    ⟨.mv (.t 3), some 19, some (18, true)⟩,
    ⟨.faddr 2 (.t 1), some 20, some (18, true)⟩,
    ⟨.aaddr 16 2 (.t 20) (.t 19), some 21, some (18, true)⟩,
    ⟨.faddr 0 (.t 21), some 22, some (18, true)⟩,
    ⟨.load false 1 (.t 22), some 23, some (18, true)⟩,
    ⟨.pick (.t 18) (.t 23) (.c (.p (.b false))), some 24, some (14, false)⟩,
    ⟨.pick (.t 14) (.c (.p (.b true))) (.t 24), some 25, none⟩])
  (.keep [1, 3, 25] (.cond (.t 25)
  (.seq (.reg false [] [⟨.mv (.c (.p (.b false))), some 2, none⟩])
    (.ret))
  (.skip)))))
  (.reg false [] [⟨.mv (.t 3), some 6, none⟩,
    ⟨.bin .add .plain (.t 6) (.c (.p (.i .i64 1))), some 7, none⟩,
    ⟨.mv (.t 7), some 3, none⟩]))
def J2r : Jk := .seq (.reg false [] [⟨.mv (.c (.p (.b true))), some 2, none⟩])
  (.ret)
def J5k : Jk := .seq (.reg false [] [⟨.box 34 (.t 0), some 1, none⟩,
    ⟨.mv (.c (.p (.b false))), some 2, none⟩])
  (.seq (.seq (.reg false [] [⟨.mv (.c (.p (.i .i64 0))), some 3, none⟩])
  (.block 0 (.loop [1, 3] J0n)))
  (.keep [] J2r))
def J1m : AFn := ⟨1, 26, J5k, [.tmp 2], false⟩
def J3U : Jk := .seq (.reg false [] [⟨.box 34 (.t 0), some 1, none⟩,
    ⟨.mv (.c (.p (.b false))), some 2, none⟩])
  (.seq (.reg false [] [⟨.load true 34 (.t 1), some 3, none⟩,
    ⟨.call J3h [(.t 3)] 0, some 4, none⟩,
    ⟨.mv (.t 4), some 5, none⟩,
    ⟨.load true 34 (.t 1), some 6, some (5, true)⟩,
    ⟨.call J3V [(.t 6)] 0, some 7, some (5, true)⟩,
    ⟨.pick (.t 5) (.t 7) (.c (.p (.b false))), some 8, none⟩,
    ⟨.mv (.t 8), some 2, none⟩])
  (.ret))
def J4Y : AFn := ⟨1, 9, J3U, [.tmp 2], false⟩
def J1T : Jk := .seq (.reg false [] [⟨.bin .lss .plain (.t 29) (.c (.p (.i .i64 16))), some 30, none⟩])
  (.seq (.cond (.t 30)
  (.skip)
  (.exit 1))
  (.seq (.block 2 (.seq (.reg false [] [⟨.aidx true 16 2 (.t 28) (.t 29), some 31, none⟩,
    ⟨.newbox (Jf default), some 7, none⟩,
    ⟨.store 2 (.t 7) (.t 31), none, none⟩])
  (.keep [1, 4, 5, 7, 28, 29] (.reg false [] [⟨.mv (.t 5), some 32, none⟩,
    ⟨.load true 2 (.t 7), some 33, none⟩,
    ⟨.callv (.t 32) [(.t 33)] 0, some 34, none⟩]))))
  (.reg false [] [⟨.bin .add .plain (.t 29) (.c (.p (.i .i64 1))), some 35, none⟩,
    ⟨.mv (.t 35), some 29, none⟩])))
def J2k : Jk := .seq (.reg true [(3, 10)] [⟨.mv (.t 4), some 36, none⟩,
    ⟨.nilchk (.t 36), some 37, none⟩,
    ⟨.faddr 0 (.t 37), some 38, none⟩,
    ⟨.load false 1 (.t 38), some 39, none⟩,
    ⟨.mv (.t 4), some 40, none⟩,
    ⟨.nilchk (.t 40), some 41, none⟩,
    ⟨.faddr 0 (.t 41), some 42, none⟩,
    ⟨.load false 1 (.t 42), some 43, none⟩,
    ⟨.len true (.t 43), some 44, none⟩,
    ⟨.bin .sub .plain (.c (.p (.i .i64 244))) (.t 44), some 45, none⟩,
    ⟨.call J1I [(.c (.p (.s [0]))), (.t 45)] 0, some 46, none⟩,
    ⟨.bin .add .plain (.t 39) (.t 46), some 47, none⟩,
    ⟨.mv (.t 47), some 8, none⟩])
  (.keep [1, 8] (.seq (.reg true [(2, 6), (4, 6)] [⟨.mv (.t 8), some 48, none⟩,
    ⟨.mv (.t 8), some 49, none⟩,
    ⟨.call J4A [(.t 49)] 0, some 50, none⟩,
    ⟨.conv (.int .i64) (.t 50), some 51, none⟩,
    ⟨.call J1f [(.t 48), (.t 51), (.c (.p (.i .i64 4)))] 0, some 52, none⟩,
    ⟨.faddr 1 (.t 1), some 53, none⟩,
    ⟨.load false 1 (.t 53), some 54, none⟩,
    ⟨.call J1f [(.t 52), (.t 54), (.c (.p (.i .i64 8)))] 0, some 55, none⟩,
    ⟨.mv (.t 55), some 2, none⟩,
    ⟨.mv (.c (.p (.i .i64 0))), some 3, none⟩])
  (.ret)))
def J24 : Jk := .seq (.reg false [] [⟨.box 34 (.t 0), some 1, none⟩,
    ⟨.mv (.c (.p (.s []))), some 2, none⟩,
    ⟨.mv (.c (.p (.i .i64 0))), some 3, none⟩])
  (.keep [1] (.seq (.block 0 (.seq (.reg false [] [⟨.load true 34 (.t 1), some 10, none⟩,
    ⟨.call J3h [(.t 10)] 0, some 11, none⟩,
    ⟨.un .not (.t 11), some 12, none⟩,
    ⟨.mv (.t 12), some 9, none⟩])
  (.keep [1, 9] (.cond (.t 9)
  (.seq (.reg false [] [⟨.mv (.c (.p (.s []))), some 2, none⟩,
      ⟨.mv (.c (.p (.i .i64 1))), some 3, none⟩])
    (.ret))
  (.seq (.reg false [] [⟨.load true 34 (.t 1), some 14, none⟩,
      ⟨.call J3V [(.t 14)] 0, some 15, none⟩,
      ⟨.un .not (.t 15), some 16, none⟩,
      ⟨.mv (.t 16), some 13, none⟩])
    (.keep [1, 13] (.cond (.t 13)
    (.seq (.reg false [] [⟨.mv (.c (.p (.s []))), some 2, none⟩,
        ⟨.mv (.c (.p (.i .i64 22))), some 3, none⟩])
      (.ret))
    (.skip))))))))
  (.seq (.reg true [(2, 4)] [⟨.faddr 1 (.t 1), some 17, none⟩,
    ⟨.load false 1 (.t 17), some 18, none⟩,
    ⟨.call J1f [(.c (.p (.s []))), (.t 18), (.c (.p (.i .i64 8)))] 0, some 19, none⟩,
    ⟨.faddr 0 (.t 1), some 20, none⟩,
    ⟨.load false 1 (.t 20), some 21, none⟩,
    ⟨.call J1f [(.t 19), (.t 21), (.c (.p (.i .i64 4)))] 0, some 22, none⟩,
    ⟨.build (J0o default) [(0, 1, (.t 22))], some 23, none⟩,
    ⟨.box 1 (.t 23), some 24, none⟩,
    ⟨.mv (.t 24), some 4, none⟩])
  (.keep [1, 4] (.seq (.reg false [] [⟨.mv (.t 4), some 25, none⟩,
    ⟨.mkfn J0E [(.t 25)] [], some 26, none⟩,
    ⟨.mv (.t 26), some 5, none⟩])
  (.keep [1, 4, 5] (.seq (.tidy [1, 2, 3, 4] (.seq (.reg false [] [⟨.faddr 2 (.t 1), some 27, none⟩,
    ⟨.load true 32 (.t 27), some 28, none⟩,
    ⟨.mv (.c (.p (.i .i64 0))), some 29, none⟩])
  (.keep [1, 4, 5, 28, 29] (.block 1 (.loop [1, 4, 5, 28, 29] J1T)))))
  (.keep [1, 4] J2k))))))))
def J1l : AFn := ⟨1, 56, J24, [.tmp 2, .tmp 3], false⟩
def J3k : Jk := .seq (.reg false [] [⟨.box 34 (.t 0), some 1, none⟩,
    ⟨.mv (.c (.p (.b false))), some 2, none⟩])
  (.seq (.reg false [] [⟨.load true 34 (.t 1), some 3, none⟩,
    ⟨.call J3f [(.t 3)] 0, some 4, none⟩,
    ⟨.mv (.t 4), some 5, none⟩,
    ⟨.load true 34 (.t 1), some 6, some (5, true)⟩,
    ⟨.call J4f [(.t 6)] 0, some 7, some (5, true)⟩,
    ⟨.pick (.t 5) (.t 7) (.c (.p (.b false))), some 8, none⟩,
    ⟨.mv (.t 8), some 2, none⟩])
  (.ret))
def J46 : AFn := ⟨1, 9, J3k, [.tmp 2], false⟩
def JP : Jk := .seq (.reg false [] [⟨.bin .lss .plain (.t 38) (.t 37), some 39, none⟩])
  (.seq (.cond (.t 39)
  (.skip)
  (.exit 0))
  (.seq (.block 1 (.seq (.reg false [] [⟨.mv (.t 38), some 40, none⟩,
    ⟨.iaddr 37 (.t 36) (.t 38), some 41, none⟩,
    ⟨.load true 37 (.t 41), some 42, none⟩,
    ⟨.newbox (J3 default), some 4, none⟩,
    ⟨.mv (.t 40), some 3, none⟩,
    ⟨.store 37 (.t 4) (.t 42), none, none⟩])
  (.keep [1, 3, 4, 36, 37, 38] (.block 2 (.seq (.reg false [] [⟨.faddr 0 (.t 4), some 44, none⟩,
    ⟨.load true 34 (.t 44), some 45, none⟩,
    ⟨.call J4M [(.t 45)] 0, some 46, none⟩,
    ⟨.un .not (.t 46), some 47, none⟩,
    ⟨.mv (.t 47), some 48, none⟩,
    ⟨.load true 3 (.t 1), some 49, some (48, false)⟩,
    ⟨.faddr 0 (.t 4), some 50, some (48, false)⟩,
    ⟨.faddr 0 (.t 50), some 51, some (48, false)⟩,
    ⟨.load false 1 (.t 51), some 52, some (48, false)⟩,
    ⟨.call J22 [(.t 49), (.t 52)] 0, some 53, some (48, false)⟩,
    ⟨.mv (.t 3), some 54, some (48, false)⟩,
    ⟨.bin .neq .plain (.t 53) (.t 54), some 55, some (48, false)⟩,
    ⟨.pick (.t 48) (.c (.p (.b true))) (.t 55), some 56, none⟩,
    ⟨.mv (.t 56), some 43, none⟩])
  (.keep [1, 4, 36, 37, 38, 43] (.cond (.t 43)
  (.seq (.reg false [] [⟨.mv (.c (.p (.b false))), some 2, none⟩])
    (.ret))
  (.seq (.reg false [] [⟨.faddr 34 (.t 4), some 58, none⟩,
      ⟨.load false 1 (.t 58), some 59, none⟩,
      ⟨.mv (.t 59), some 60, none⟩,
      ⟨.faddr 35 (.t 4), some 61, some (60, true)⟩,
      ⟨.load false 1 (.t 61), some 62, some (60, true)⟩,
      ⟨.bin .lss .plain (.t 62) (.c (.p (.i .i64 1))), some 63, some (60, true)⟩,
      ⟨.mv (.t 63), some 64, some (60, true)⟩,
      ⟨.faddr 35 (.t 4), some 65, some (64, false)⟩,
      ⟨.load false 1 (.t 65), some 66, some (64, false)⟩,
      ⟨.faddr 0 (.t 4), some 67, some (64, false)⟩,
      ⟨.faddr 1 (.t 67), some 68, some (64, false)⟩,
      ⟨.load false 1 (.t 68), some 69, some (64, false)⟩,
      ⟨.bin .gtr .plain (.t 66) (.t 69), some 70, some (64, false)⟩,
      ⟨.pick (.t 64) (.c (.p (.b true))) (.t 70), some 71, some (60, true)⟩,
      ⟨.pick (.t 60) (.t 71) (.c (.p (.b false))), some 72, none⟩,
      ⟨.mv (.t 72), some 73, none⟩,
      ⟨.faddr 34 (.t 4), some 74, some (73, false)⟩,
      ⟨.load false 1 (.t 74), some 75, some (73, false)⟩,
      ⟨.un .not (.t 75), some 76, some (73, false)⟩,
      ⟨.mv (.t 76), some 77, some (73, false)⟩,
      ⟨.faddr 35 (.t 4), some 78, some (77, true)⟩,
      ⟨.load false 1 (.t 78), some 79, some (77, true)⟩,
      ⟨.bin .neq .plain (.t 79) (.c (.p (.i .i64 0))), some 80, some (77, true)⟩,
      ⟨.pick (.t 77) (.t 80) (.c (.p (.b false))), some 81, some (73, false)⟩,
      ⟨.pick (.t 73) (.c (.p (.b true))) (.t 81), some 82, none⟩,
      ⟨.mv (.t 82), some 57, none⟩])
    (.keep [1, 36, 37, 38, 57] (.cond (.t 57)
    (.seq (.reg false [] [⟨.mv (.c (.p (.b false))), some 2, none⟩])
      (.ret))
    (.skip)))))))))))
  (.reg false [] [⟨.bin .add .plain (.t 38) (.c (.p (.i .i64 1))), some 83, none⟩,
    ⟨.mv (.t 83), some 38, none⟩])))
def J2Z : Jk := .seq (.reg false [] [⟨.mv (.c (.p (.b true))), some 2, none⟩])
  (.ret)
def J0T : Jk := .seq (.reg false [] [⟨.box 3 (.t 0), some 1, none⟩,
    ⟨.mv (.c (.p (.b false))), some 2, none⟩])
  (.seq (.seq (.reg false [] [⟨.faddr 0 (.t 1), some 5, none⟩,
    ⟨.load false 1 (.t 5), some 6, none⟩,
    ⟨.bin .lss .plain (.t 6) (.c (.p (.i .i64 1))), some 7, none⟩,
    ⟨.mv (.t 7), some 8, none⟩,
    ⟨.faddr 0 (.t 1), some 9, some (8, false)⟩,
    ⟨.load false 1 (.t 9), some 10, some (8, false)⟩,
    ⟨.bin .gtr .plain (.t 10) (.c (.p (.i .i64 64))), some 11, some (8, false)⟩,
    ⟨.pick (.t 8) (.c (.p (.b true))) (.t 11), some 12, none⟩,
    ⟨.mv (.t 12), some 13, none⟩,
    ⟨.faddr 1 (.t 1), some 14, some (13, false)⟩,
    ⟨.load false 1 (.t 14), some 15, some (13, false)⟩,
    ⟨.len false (.t 15), some 16, some (13, false)⟩,
    ⟨.faddr 0 (.t 1), some 17, some (13, false)⟩,
    ⟨.load false 1 (.t 17), some 18, some (13, false)⟩,
    ⟨.bin .gtr .plain (.t 16) (.t 18), some 19, some (13, false)⟩,
    ⟨.pick (.t 13) (.c (.p (.b true))) (.t 19), some 20, none⟩,
    ⟨.mv (.t 20), some 21, none⟩,
    ⟨.faddr 2 (.t 1), some 22, some (21, false)⟩,
    ⟨.load false 1 (.t 22), some 23, some (21, false)⟩,
    ⟨.bin .lss .plain (.t 23) (.c (.p (.i .i64 0))), some 24, some (21, false)⟩,
    ⟨.pick (.t 21) (.c (.p (.b true))) (.t 24), some 25, none⟩,
    ⟨.mv (.t 25), some 26, none⟩,
    ⟨.faddr 2 (.t 1), some 27, some (26, false)⟩,
    ⟨.load false 1 (.t 27), some 28, some (26, false)⟩,
    ⟨.faddr 1 (.t 1), some 29, some (26, false)⟩,
    ⟨.load false 1 (.t 29), some 30, some (26, false)⟩,
    ⟨.len false (.t 30), some 31, some (26, false)⟩,
    ⟨.mm true (.c (.p (.i .i64 1))) (.t 31), some 32, some (26, false)⟩,
    ⟨.bin .geq .plain (.t 28) (.t 32), some 33, some (26, false)⟩,
    ⟨.pick (.t 26) (.c (.p (.b true))) (.t 33), some 34, none⟩])
  (.keep [1, 34] (.cond (.t 34)
  (.seq (.reg false [] [⟨.mv (.c (.p (.b false))), some 2, none⟩])
    (.ret))
  (.skip))))
  (.seq (.tidy [2] (.seq (.reg false [] [⟨.faddr 1 (.t 1), some 35, none⟩,
    ⟨.load false 1 (.t 35), some 36, none⟩,
    ⟨.len false (.t 36), some 37, none⟩,
    ⟨.mv (.c (.p (.i .i64 0))), some 38, none⟩])
  (.keep [1, 36, 37, 38] (.block 0 (.loop [1, 36, 37, 38] JP)))))
  (.keep [] J2Z)))
def J1E : AFn := ⟨1, 84, J0T, [.tmp 2], false⟩
def J4D : Jk := .seq (.reg false [] [⟨.box 3 (.t 0), some 2, none⟩,
    ⟨.mv (.c (.p (.i .i64 0))), some 4, none⟩])
  (.seq (.seq (.reg false [] [⟨.load true 3 (.t 2), some 5, none⟩,
    ⟨.call J1n [(.t 5)] 0, some 6, none⟩,
    ⟨.un .not (.t 6), some 7, none⟩])
  (.keep [1, 2, 7] (.cond (.t 7)
  (.seq (.reg false [] [⟨.mv (.c (.p (.i .i64 (-1)))), some 4, none⟩])
    (.ret))
  (.skip))))
  (.seq (.reg false [] [⟨.load true 3 (.t 2), some 8, none⟩,
    ⟨.mv (.t 1), some 9, none⟩,
    ⟨.call J22 [(.t 8), (.t 9)] 0, some 10, none⟩,
    ⟨.mv (.t 10), some 4, none⟩])
  (.ret)))
def J5u : AFn := ⟨2, 11, J4D, [.tmp 4], false⟩
def J1x : Jk := .seq (.seq (.reg false [] [⟨.faddr 1 (.t 1), some 20, none⟩,
    ⟨.load false 1 (.t 20), some 21, none⟩,
    ⟨.faddr 2 (.t 1), some 22, none⟩,
    ⟨.load false 1 (.t 22), some 23, none⟩,
    ⟨.iaddr 37 (.t 21) (.t 23), some 24, none⟩,
    ⟨.faddr 36 (.t 24), some 25, none⟩,
    ⟨.load false 1 (.t 25), some 26, none⟩])
  (.keep [1, 2, 26] (.cond (.t 26)
  (.skip)
  (.exit 1))))
  (.block 2 (.seq (.reg false [] [⟨.faddr 1 (.t 1), some 27, none⟩,
    ⟨.load false 1 (.t 27), some 28, none⟩,
    ⟨.faddr 2 (.t 1), some 29, none⟩,
    ⟨.load false 1 (.t 29), some 30, none⟩,
    ⟨.iaddr 37 (.t 28) (.t 30), some 31, none⟩,
    ⟨.faddr 36 (.t 31), some 32, none⟩,
    ⟨.store 1 (.t 32) (.c (.p (.b false))), none, none⟩])
  (.keep [1, 2] (.reg false [] [⟨.faddr 2 (.t 1), some 33, none⟩,
    ⟨.load false 1 (.t 33), some 34, none⟩,
    ⟨.bin .add .plain (.t 34) (.c (.p (.i .i64 1))), some 35, none⟩,
    ⟨.faddr 1 (.t 1), some 36, none⟩,
    ⟨.load false 1 (.t 36), some 37, none⟩,
    ⟨.len false (.t 37), some 38, none⟩,
    ⟨.bin .rem .plain (.t 35) (.t 38), some 39, none⟩,
    ⟨.faddr 2 (.t 1), some 40, none⟩,
    ⟨.store 1 (.t 40) (.t 39), none, none⟩]))))
def J2i : Jk := .seq (.reg true [(2, 9), (4, 9), (5, 9), (8, 9)] [⟨.load true 3 (.t 1), some 41, none⟩,
    ⟨.faddr 1 (.t 1), some 42, none⟩,
    ⟨.load false 1 (.t 42), some 43, none⟩,
    ⟨.faddr 2 (.t 1), some 44, none⟩,
    ⟨.load false 1 (.t 44), some 45, none⟩,
    ⟨.iaddr 37 (.t 43) (.t 45), some 46, none⟩,
    ⟨.faddr 0 (.t 46), some 47, none⟩,
    ⟨.faddr 0 (.t 47), some 48, none⟩,
    ⟨.load false 1 (.t 48), some 49, none⟩,
    ⟨.store 3 (.t 2) (.t 41), none, none⟩,
    ⟨.mv (.t 49), some 3, none⟩,
    ⟨.mv (.c (.p (.i .i64 0))), some 4, none⟩])
  (.ret)
def J29 : Jk := .seq (.reg false [] [⟨.box 3 (.t 0), some 1, none⟩,
    ⟨.newbox (J6 default), some 2, none⟩,
    ⟨.mv (.c (.p (.i .i64 0))), some 3, none⟩,
    ⟨.mv (.c (.p (.i .i64 0))), some 4, none⟩])
  (.keep [1, 2] (.seq (.block 0 (.seq (.reg false [] [⟨.load true 3 (.t 1), some 6, none⟩,
    ⟨.call J1n [(.t 6)] 0, some 7, none⟩,
    ⟨.un .not (.t 7), some 8, none⟩,
    ⟨.mv (.t 8), some 5, none⟩])
  (.keep [1, 2, 5] (.cond (.t 5)
  (.seq (.reg false [] [⟨.build (J6 default) [], some 9, none⟩,
      ⟨.store 3 (.t 2) (.t 9), none, none⟩,
      ⟨.mv (.c (.p (.i .i64 0))), some 3, none⟩,
      ⟨.mv (.c (.p (.i .i64 15))), some 4, none⟩])
    (.ret))
  (.seq (.reg false [] [⟨.faddr 1 (.t 1), some 11, none⟩,
      ⟨.load false 1 (.t 11), some 12, none⟩,
      ⟨.len false (.t 12), some 13, none⟩,
      ⟨.bin .eql .plain (.t 13) (.c (.p (.i .i64 0))), some 14, none⟩,
      ⟨.mv (.t 14), some 10, none⟩])
    (.keep [1, 2, 10] (.cond (.t 10)
    (.seq (.reg false [] [⟨.build (J6 default) [], some 15, none⟩,
        ⟨.store 3 (.t 2) (.t 15), none, none⟩,
        ⟨.mv (.c (.p (.i .i64 0))), some 3, none⟩,
        ⟨.mv (.c (.p (.i .i64 18))), some 4, none⟩])
      (.ret))
    (.skip))))))))
  (.seq (.reg false [] [⟨.faddr 1 (.t 1), some 16, none⟩,
    ⟨.load false 1 (.t 16), some 17, none⟩,
    ⟨.call Jz [(.t 17)] 1, some 18, none⟩,
    ⟨.faddr 1 (.t 1), some 19, none⟩,
    ⟨.store 1 (.t 19) (.t 18), none, none⟩])
  (.keep [1, 2] (.seq (.block 1 (.loop [1, 2] J1x))
  (.keep [1, 2] J2i))))))
def J1o : AFn := ⟨1, 50, J29, [.cell 2 true 3, .tmp 3, .tmp 4], false⟩
def J7i : Jk := .seq (.reg false [] [⟨.box 3 (.t 0), some 2, none⟩,
    ⟨.box 3 (.t 1), some 3, none⟩,
    ⟨.mv (.c (.p (.i .i64 0))), some 4, none⟩])
  (.keep [2, 3] (.seq (.reg false [] [⟨.faddr 0 (.t 2), some 5, none⟩,
    ⟨.load false 1 (.t 5), some 6, none⟩,
    ⟨.faddr 0 (.t 3), some 7, none⟩,
    ⟨.load false 1 (.t 7), some 8, none⟩,
    ⟨.call J6H [(.t 6), (.t 8)] 0, some 9, none⟩,
    ⟨.mv (.t 9), some 4, none⟩])
  (.ret)))
def J92 : AFn := ⟨2, 10, J7i, [.tmp 4], false⟩
def J1L : Jk := .seq (.reg false [] [⟨.box 3 (.t 0), some 2, none⟩,
    ⟨.box 34 (.t 1), some 3, none⟩,
    ⟨.newbox (J6 default), some 4, none⟩,
    ⟨.mv (.c (.p (.i .i64 0))), some 5, none⟩])
  (.keep [2, 3, 4] (.seq (.seq (.reg false [] [⟨.load true 3 (.t 2), some 8, none⟩,
    ⟨.call J1n [(.t 8)] 0, some 9, none⟩,
    ⟨.un .not (.t 9), some 10, none⟩])
  (.keep [2, 3, 4, 10] (.cond (.t 10)
  (.seq (.reg false [] [⟨.build (J6 default) [], some 11, none⟩,
      ⟨.store 3 (.t 4) (.t 11), none, none⟩,
      ⟨.mv (.c (.p (.i .i64 15))), some 5, none⟩])
    (.ret))
  (.skip))))
  (.seq (.reg false [] [⟨.load true 34 (.t 3), some 13, none⟩,
    ⟨.call J3m [(.t 13)] 0, some 14, none⟩,
    ⟨.mv (.t 14), some 12, none⟩,
    ⟨.extr (.t 12) 0, some 15, none⟩,
    ⟨.extr (.t 12) 1, some 16, none⟩,
    ⟨.mv (.t 15), some 6, none⟩,
    ⟨.mv (.t 16), some 7, none⟩])
  (.keep [2, 3, 4, 7] (.seq (.block 0 (.seq (.reg false [] [⟨.mv (.t 7), some 18, none⟩,
    ⟨.bin .neq .plain (.t 18) (.c (.p (.i .i64 0))), some 19, none⟩,
    ⟨.mv (.t 19), some 17, none⟩])
  (.keep [2, 3, 4, 7, 17] (.cond (.t 17)
  (.seq (.reg false [] [⟨.build (J6 default) [], some 20, none⟩,
      ⟨.mv (.t 7), some 21, none⟩,
      ⟨.store 3 (.t 4) (.t 20), none, none⟩,
      ⟨.mv (.t 21), some 5, none⟩])
    (.ret))
  (.seq (.reg false [] [⟨.load true 3 (.t 2), some 23, none⟩,
      ⟨.faddr 0 (.t 3), some 24, none⟩,
      ⟨.load false 1 (.t 24), some 25, none⟩,
      ⟨.call J22 [(.t 23), (.t 25)] 0, some 26, none⟩,
      ⟨.bin .geq .plain (.t 26) (.c (.p (.i .i64 0))), some 27, none⟩,
      ⟨.mv (.t 27), some 22, none⟩])
    (.keep [2, 3, 4, 22] (.cond (.t 22)
    (.seq (.reg false [] [⟨.build (J6 default) [], some 28, none⟩,
        ⟨.store 3 (.t 4) (.t 28), none, none⟩,
        ⟨.mv (.c (.p (.i .i64 25))), some 5, none⟩])
      (.ret))
    (.seq (.reg false [] [⟨.faddr 1 (.t 2), some 30, none⟩,
        ⟨.load false 1 (.t 30), some 31, none⟩,
        ⟨.len false (.t 31), some 32, none⟩,
        ⟨.faddr 0 (.t 2), some 33, none⟩,
        ⟨.load false 1 (.t 33), some 34, none⟩,
        ⟨.bin .eql .plain (.t 32) (.t 34), some 35, none⟩,
        ⟨.mv (.t 35), some 29, none⟩])
      (.keep [2, 3, 4, 29] (.cond (.t 29)
      (.seq (.reg false [] [⟨.build (J6 default) [], some 36, none⟩,
          ⟨.store 3 (.t 4) (.t 36), none, none⟩,
          ⟨.mv (.c (.p (.i .i64 21))), some 5, none⟩])
        (.ret))
      (.skip)))))))))))
  (.seq (.reg true [(2, 3), (1, 5), (2, 5)] [⟨.faddr 1 (.t 2), some 37, none⟩,
    ⟨.load false 1 (.t 37), some 38, none⟩,
    ⟨.call JZ [(.t 38)] 0, some 39, none⟩,
    ⟨.load true 34 (.t 3), some 40, none⟩,
    ⟨.build (J3 default) [(0, 34, (.t 40)), (36, 1, (.c (.p (.b true))))], some 41, none⟩,
    ⟨.lits false 37 1 (J3 default) [(0, (.t 41))], some 42, none⟩,
    ⟨.appc 37 424 (J3 default) (.t 39) (.t 42), some 43, none⟩,
    ⟨.faddr 1 (.t 2), some 44, none⟩,
    ⟨.store 1 (.t 44) (.t 43), none, none⟩])
  (.keep [2, 4] (.seq (.reg false [] [⟨.load true 3 (.t 2), some 45, none⟩,
    ⟨.store 3 (.t 4) (.t 45), none, none⟩,
    ⟨.mv (.c (.p (.i .i64 0))), some 5, none⟩])
  (.ret)))))))))
def J6i : AFn := ⟨2, 46, J1L, [.cell 4 true 3, .tmp 5], false⟩
def J7a : Jk := .seq (.reg false [] [⟨.faddr 1 (.t 2), some 62, none⟩,
    ⟨.load false 1 (.t 62), some 63, none⟩,
    ⟨.mv (.t 8), some 64, none⟩,
    ⟨.load true 37 (.t 9), some 65, none⟩,
    ⟨.call J19 [(.t 63), (.t 64), (.t 65)] 0, some 66, none⟩,
    ⟨.faddr 1 (.t 2), some 67, none⟩,
    ⟨.store 1 (.t 67) (.t 66), none, none⟩])
  (.keep [2, 4] (.seq (.reg false [] [⟨.load true 3 (.t 2), some 68, none⟩,
    ⟨.store 3 (.t 4) (.t 68), none, none⟩,
    ⟨.mv (.c (.p (.i .i64 0))), some 5, none⟩])
  (.ret)))
def J0F : Jk := .seq (.reg false [] [⟨.box 3 (.t 0), some 2, none⟩,
    ⟨.box 34 (.t 1), some 3, none⟩,
    ⟨.newbox (J6 default), some 4, none⟩,
    ⟨.mv (.c (.p (.i .i64 0))), some 5, none⟩])
  (.keep [2, 3, 4] (.seq (.seq (.reg false [] [⟨.load true 3 (.t 2), some 10, none⟩,
    ⟨.call J1n [(.t 10)] 0, some 11, none⟩,
    ⟨.un .not (.t 11), some 12, none⟩])
  (.keep [2, 3, 4, 12] (.cond (.t 12)
  (.seq (.reg false [] [⟨.build (J6 default) [], some 13, none⟩,
      ⟨.store 3 (.t 4) (.t 13), none, none⟩,
      ⟨.mv (.c (.p (.i .i64 15))), some 5, none⟩])
    (.ret))
  (.skip))))
  (.seq (.reg false [] [⟨.load true 34 (.t 3), some 15, none⟩,
    ⟨.call J3m [(.t 15)] 0, some 16, none⟩,
    ⟨.mv (.t 16), some 14, none⟩,
    ⟨.extr (.t 14) 0, some 17, none⟩,
    ⟨.extr (.t 14) 1, some 18, none⟩,
    ⟨.mv (.t 17), some 6, none⟩,
    ⟨.mv (.t 18), some 7, none⟩])
  (.keep [2, 3, 4, 7] (.seq (.reg false [] [⟨.load true 3 (.t 2), some 19, none⟩,
    ⟨.faddr 0 (.t 3), some 20, none⟩,
    ⟨.load false 1 (.t 20), some 21, none⟩,
    ⟨.call J22 [(.t 19), (.t 21)] 0, some 22, none⟩,
    ⟨.mv (.t 22), some 8, none⟩])
  (.keep [2, 3, 4, 7, 8] (.seq (.block 0 (.seq (.reg false [] [⟨.mv (.t 7), some 24, none⟩,
    ⟨.bin .neq .plain (.t 24) (.c (.p (.i .i64 0))), some 25, none⟩,
    ⟨.mv (.t 25), some 23, none⟩])
  (.keep [2, 3, 4, 7, 8, 23] (.cond (.t 23)
  (.seq (.reg false [] [⟨.build (J6 default) [], some 26, none⟩,
      ⟨.mv (.t 7), some 27, none⟩,
      ⟨.store 3 (.t 4) (.t 26), none, none⟩,
      ⟨.mv (.t 27), some 5, none⟩])
    (.ret))
  (.seq (.reg false [] [⟨.mv (.t 8), some 29, none⟩,
      ⟨.bin .lss .plain (.t 29) (.c (.p (.i .i64 0))), some 30, none⟩,
      ⟨.mv (.t 30), some 28, none⟩])
    (.keep [2, 3, 4, 8, 28] (.cond (.t 28)
    (.seq (.reg false [] [⟨.build (J6 default) [], some 31, none⟩,
        ⟨.store 3 (.t 4) (.t 31), none, none⟩,
        ⟨.mv (.c (.p (.i .i64 18))), some 5, none⟩])
      (.ret))
    (.seq (.reg true [] [⟨.faddr 1 (.t 3), some 33, none⟩,
        ⟨.load false 1 (.t 33), some 34, none⟩,
        ⟨.faddr 1 (.t 2), some 35, none⟩,
        ⟨.load false 1 (.t 35), some 36, none⟩,
        ⟨.mv (.t 8), some 37, none⟩,
        ⟨.iaddr 37 (.t 36) (.t 37), some 38, none⟩,
        ⟨.faddr 0 (.t 38), some 39, none⟩,
        ⟨.faddr 1 (.t 39), some 40, none⟩,
        ⟨.load false 1 (.t 40), some 41, none⟩,
        ⟨.bin .leq .plain (.t 34) (.t 41), some 42, none⟩,
        ⟨.mv (.t 42), some 32, none⟩])
      (.keep [2, 3, 4, 8, 32] (.cond (.t 32)
      (.seq (.reg false [] [⟨.build (J6 default) [], some 43, none⟩,
          ⟨.store 3 (.t 4) (.t 43), none, none⟩,
          ⟨.mv (.c (.p (.i .i64 8))), some 5, none⟩])
        (.ret))
      (.skip)))))))))))
  (.seq (.reg true [(0, 8), (2, 8), (4, 8), (6, 8)] [⟨.load true 34 (.t 3), some 44, none⟩,
    ⟨.faddr 1 (.t 2), some 45, none⟩,
    ⟨.load false 1 (.t 45), some 46, none⟩,
    ⟨.mv (.t 8), some 47, none⟩,
    ⟨.iaddr 37 (.t 46) (.t 47), some 48, none⟩,
    ⟨.faddr 35 (.t 48), some 49, none⟩,
    ⟨.load false 1 (.t 49), some 50, none⟩,
    ⟨.build (J3 default) [(0, 34, (.t 44)), (34, 1, (.c (.p (.b true)))), (35, 1, (.t 50)), (36, 1, (.c (.p (.b true))))], some 51, none⟩,
    ⟨.newbox (J3 default), some 9, none⟩,
    ⟨.store 37 (.t 9) (.t 51), none, none⟩])
  (.keep [2, 3, 4, 8, 9] (.seq (.seq (.reg false [] [⟨.faddr 1 (.t 2), some 52, none⟩,
    ⟨.load false 1 (.t 52), some 53, none⟩,
    ⟨.mv (.t 8), some 54, none⟩,
    ⟨.iaddr 37 (.t 53) (.t 54), some 55, none⟩,
    ⟨.faddr 34 (.t 55), some 56, none⟩,
    ⟨.load false 1 (.t 56), some 57, none⟩,
    ⟨.un .not (.t 57), some 58, none⟩])
  (.keep [2, 3, 4, 8, 9, 58] (.cond (.t 58)
  (.reg false [] [⟨.faddr 1 (.t 3), some 59, none⟩,
      ⟨.load false 1 (.t 59), some 60, none⟩,
      ⟨.faddr 35 (.t 9), some 61, none⟩,
      ⟨.store 1 (.t 61) (.t 60), none, none⟩])
  (.skip))))
  (.keep [2, 4, 8, 9] J7a)))))))))))
def J3l : AFn := ⟨2, 69, J0F, [.cell 4 true 3, .tmp 5], false⟩
def J7D : Jk := .seq (.reg false [] [⟨.faddr 1 (.t 3), some 53, none⟩,
    ⟨.load false 1 (.t 53), some 54, none⟩,
    ⟨.mv (.t 8), some 55, none⟩,
    ⟨.load true 37 (.t 9), some 56, none⟩,
    ⟨.call J19 [(.t 54), (.t 55), (.t 56)] 0, some 57, none⟩,
    ⟨.faddr 1 (.t 3), some 58, none⟩,
    ⟨.store 1 (.t 58) (.t 57), none, none⟩])
  (.keep [3, 6] (.seq (.reg false [] [⟨.load true 3 (.t 3), some 59, none⟩,
    ⟨.store 3 (.t 6) (.t 59), none, none⟩,
    ⟨.mv (.c (.p (.i .i64 0))), some 7, none⟩])
  (.ret)))
def J0y : Jk := .seq (.reg false [] [⟨.box 3 (.t 0), some 3, none⟩,
    ⟨.newbox (J6 default), some 6, none⟩,
    ⟨.mv (.c (.p (.i .i64 0))), some 7, none⟩])
  (.keep [1, 2, 3, 6] (.seq (.seq (.reg false [] [⟨.load true 3 (.t 3), some 10, none⟩,
    ⟨.call J1n [(.t 10)] 0, some 11, none⟩,
    ⟨.un .not (.t 11), some 12, none⟩])
  (.keep [1, 2, 3, 6, 12] (.cond (.t 12)
  (.seq (.reg false [] [⟨.build (J6 default) [], some 13, none⟩,
      ⟨.store 3 (.t 6) (.t 13), none, none⟩,
      ⟨.mv (.c (.p (.i .i64 15))), some 7, none⟩])
    (.ret))
  (.skip))))
  (.seq (.reg false [] [⟨.load true 3 (.t 3), some 14, none⟩,
    ⟨.mv (.t 1), some 15, none⟩,
    ⟨.call J22 [(.t 14), (.t 15)] 0, some 16, none⟩,
    ⟨.mv (.t 16), some 8, none⟩])
  (.keep [2, 3, 6, 8] (.seq (.seq (.reg false [] [⟨.mv (.t 8), some 17, none⟩,
    ⟨.bin .lss .plain (.t 17) (.c (.p (.i .i64 0))), some 18, none⟩])
  (.cond (.t 18)
  (.seq (.reg false [] [⟨.build (J6 default) [], some 19, none⟩,
      ⟨.store 3 (.t 6) (.t 19), none, none⟩,
      ⟨.mv (.c (.p (.i .i64 18))), some 7, none⟩])
    (.ret))
  (.skip)))
  (.seq (.reg false [] [⟨.faddr 1 (.t 3), some 20, none⟩,
    ⟨.load false 1 (.t 20), some 21, none⟩,
    ⟨.mv (.t 8), some 22, none⟩,
    ⟨.iaddr 37 (.t 21) (.t 22), some 23, none⟩,
    ⟨.load true 37 (.t 23), some 24, none⟩,
    ⟨.newbox (J3 default), some 9, none⟩,
    ⟨.store 37 (.t 9) (.t 24), none, none⟩])
  (.keep [2, 3, 6, 8, 9] (.seq (.block 0 (.seq (.reg false [] [⟨.mv (.t 2), some 26, none⟩,
    ⟨.faddr 0 (.t 9), some 27, none⟩,
    ⟨.faddr 1 (.t 27), some 28, none⟩,
    ⟨.load false 1 (.t 28), some 29, none⟩,
    ⟨.bin .gtr .plain (.t 26) (.t 29), some 30, none⟩,
    ⟨.mv (.t 30), some 25, none⟩])
  (.keep [2, 3, 6, 8, 9, 25] (.cond (.t 25)
  (.seq (.reg false [] [⟨.build (J6 default) [], some 31, none⟩,
      ⟨.store 3 (.t 6) (.t 31), none, none⟩,
      ⟨.mv (.c (.p (.i .i64 9))), some 7, none⟩])
    (.ret))
  (.seq (.reg false [] [⟨.faddr 34 (.t 9), some 33, none⟩,
      ⟨.load false 1 (.t 33), some 34, none⟩,
      ⟨.un .not (.t 34), some 35, none⟩,
      ⟨.mv (.t 35), some 32, none⟩])
    (.keep [2, 3, 6, 8, 9, 32] (.cond (.t 32)
    (.seq (.reg false [] [⟨.load true 3 (.t 3), some 36, none⟩,
        ⟨.store 3 (.t 6) (.t 36), none, none⟩,
        ⟨.mv (.c (.p (.i .i64 0))), some 7, none⟩])
      (.ret))
    (.seq (.reg false [] [⟨.mv (.t 2), some 38, none⟩,
        ⟨.faddr 0 (.t 9), some 39, none⟩,
        ⟨.faddr 1 (.t 39), some 40, none⟩,
        ⟨.load false 1 (.t 40), some 41, none⟩,
        ⟨.bin .eql .plain (.t 38) (.t 41), some 42, none⟩,
        ⟨.mv (.t 42), some 37, none⟩])
      (.keep [2, 3, 6, 8, 9, 37] (.cond (.t 37)
      (.reg false [] [⟨.faddr 34 (.t 9), some 43, none⟩,
          ⟨.store 1 (.t 43) (.c (.p (.b false))), none, none⟩,
          ⟨.faddr 35 (.t 9), some 44, none⟩,
          ⟨.store 1 (.t 44) (.c (.p (.i .i64 0))), none, none⟩])
      (.seq (.reg false [] [⟨.faddr 35 (.t 9), some 46, none⟩,
          ⟨.load false 1 (.t 46), some 47, none⟩,
          ⟨.mv (.t 2), some 48, none⟩,
          ⟨.bin .leq .plain (.t 47) (.t 48), some 49, none⟩,
          ⟨.mv (.t 49), some 45, none⟩])
        (.keep [2, 3, 6, 8, 9, 45] (.cond (.t 45)
        (.reg false [] [⟨.mv (.t 2), some 50, none⟩,
            ⟨.bin .add .plain (.t 50) (.c (.p (.i .i64 1))), some 51, none⟩,
            ⟨.faddr 35 (.t 9), some 52, none⟩,
            ⟨.store 1 (.t 52) (.t 51), none, none⟩])
        (.skip))))))))))))))
  (.keep [3, 6, 8, 9] J7D)))))))))
def J3N : AFn := ⟨3, 60, J0y, [.cell 6 true 3, .tmp 7], false⟩
def J1r : Jk := .seq (.reg false [] [⟨.bin .lss .plain (.t 12) (.t 11), some 13, none⟩])
  (.seq (.cond (.t 13)
  (.skip)
  (.exit 0))
  (.seq (.block 1 (.seq (.reg false [] [⟨.iaddr 37 (.t 10) (.t 12), some 14, none⟩,
    ⟨.load true 37 (.t 14), some 15, none⟩,
    ⟨.newbox (J3 default), some 5, none⟩,
    ⟨.store 37 (.t 5) (.t 15), none, none⟩])
  (.keep [3, 5, 10, 11, 12] (.seq (.reg false [] [⟨.faddr 34 (.t 5), some 16, none⟩,
    ⟨.load false 1 (.t 16), some 17, none⟩])
  (.cond (.t 17)
  (.reg false [] [⟨.mv (.t 3), some 18, none⟩,
      ⟨.faddr 0 (.t 5), some 19, none⟩,
      ⟨.faddr 0 (.t 19), some 20, none⟩,
      ⟨.load false 1 (.t 20), some 21, none⟩,
      ⟨.faddr 35 (.t 5), some 22, none⟩,
      ⟨.load false 1 (.t 22), some 23, none⟩,
      ⟨.faddr 0 (.t 5), some 24, none⟩,
      ⟨.faddr 1 (.t 24), some 25, none⟩,
      ⟨.load false 1 (.t 25), some 26, none⟩,
      ⟨.build (Jc default) [(0, 1, (.t 21)), (1, 1, (.t 23)), (2, 1, (.t 26))], some 27, none⟩,
      ⟨.lits false 3 1 (Jc default) [(0, (.t 27))], some 28, none⟩,
      ⟨.app 3 24 (Jc default) (.t 18) (.t 28), some 29, none⟩,
      ⟨.mv (.t 29), some 3, none⟩])
  (.skip))))))
  (.reg false [] [⟨.bin .add .plain (.t 12) (.c (.p (.i .i64 1))), some 30, none⟩,
    ⟨.mv (.t 30), some 12, none⟩])))
def J2T : Jk := .seq (.reg false [] [⟨.mv (.t 3), some 31, none⟩,
    ⟨.callo J0p [true] [(.t 31), (.c (.fn J5P [] []))] 0, some 32, none⟩])
  (.seq (.reg false [] [⟨.mv (.t 3), some 33, none⟩,
    ⟨.mv (.t 33), some 2, none⟩])
  (.ret))
def J3S : Jk := .seq (.reg false [] [⟨.box 3 (.t 0), some 1, none⟩,
    ⟨.mv (.c (.p (.sl 3 []))), some 2, none⟩])
  (.seq (.seq (.reg false [] [⟨.load true 3 (.t 1), some 6, none⟩,
    ⟨.call J1n [(.t 6)] 0, some 7, none⟩,
    ⟨.un .not (.t 7), some 8, none⟩])
  (.keep [1, 8] (.cond (.t 8)
  (.seq (.reg false [] [⟨.mv (.c (.p (.sl 3 []))), some 2, none⟩])
    (.ret))
  (.skip))))
  (.seq (.reg false [] [⟨.mkarr 3 (.c (.p (.sl 3 []))), some 3, none⟩])
  (.seq (.tidy [2, 3] (.seq (.reg false [] [⟨.faddr 1 (.t 1), some 9, none⟩,
    ⟨.load false 1 (.t 9), some 10, none⟩,
    ⟨.len false (.t 10), some 11, none⟩,
    ⟨.mv (.c (.p (.i .i64 0))), some 12, none⟩])
  (.keep [3, 10, 11, 12] (.block 0 (.loop [3, 10, 11, 12] J1r)))))
  (.keep [3] J2T))))
def J1C : AFn := ⟨1, 34, J3S, [.tmp 2], false⟩
def J83 : Jk := .seq (.reg false [] [⟨.load true 3 (.t 2), some 49, none⟩,
    ⟨.store 3 (.t 4) (.t 49), none, none⟩,
    ⟨.mv (.c (.p (.i .i64 0))), some 5, none⟩])
  (.ret)
def J6V : Jk := .seq (.seq (.reg false [] [⟨.faddr 2 (.t 2), some 42, none⟩,
    ⟨.load false 1 (.t 42), some 43, none⟩,
    ⟨.faddr 1 (.t 2), some 44, none⟩,
    ⟨.load false 1 (.t 44), some 45, none⟩,
    ⟨.len false (.t 45), some 46, none⟩,
    ⟨.bin .geq .plain (.t 43) (.t 46), some 47, none⟩])
  (.keep [2, 4, 47] (.cond (.t 47)
  (.reg false [] [⟨.faddr 2 (.t 2), some 48, none⟩,
      ⟨.store 1 (.t 48) (.c (.p (.i .i64 0))), none, none⟩])
  (.skip))))
  (.keep [2, 4] J83)
def J1t : Jk := .seq (.reg false [] [⟨.box 3 (.t 0), some 2, none⟩,
    ⟨.newbox (J6 default), some 4, none⟩,
    ⟨.mv (.c (.p (.i .i64 0))), some 5, none⟩])
  (.keep [1, 2, 4] (.seq (.seq (.reg false [] [⟨.load true 3 (.t 2), some 7, none⟩,
    ⟨.call J1n [(.t 7)] 0, some 8, none⟩,
    ⟨.un .not (.t 8), some 9, none⟩])
  (.keep [1, 2, 4, 9] (.cond (.t 9)
  (.seq (.reg false [] [⟨.build (J6 default) [], some 10, none⟩,
      ⟨.store 3 (.t 4) (.t 10), none, none⟩,
      ⟨.mv (.c (.p (.i .i64 15))), some 5, none⟩])
    (.ret))
  (.skip))))
  (.seq (.reg false [] [⟨.load true 3 (.t 2), some 11, none⟩,
    ⟨.mv (.t 1), some 12, none⟩,
    ⟨.call J22 [(.t 11), (.t 12)] 0, some 13, none⟩,
    ⟨.mv (.t 13), some 6, none⟩])
  (.keep [2, 4, 6] (.seq (.block 0 (.seq (.reg false [] [⟨.mv (.t 6), some 15, none⟩,
    ⟨.bin .lss .plain (.t 15) (.c (.p (.i .i64 0))), some 16, none⟩,
    ⟨.mv (.t 16), some 14, none⟩])
  (.keep [2, 4, 6, 14] (.cond (.t 14)
  (.seq (.reg false [] [⟨.build (J6 default) [], some 17, none⟩,
      ⟨.store 3 (.t 4) (.t 17), none, none⟩,
      ⟨.mv (.c (.p (.i .i64 18))), some 5, none⟩])
    (.ret))
  (.seq (.reg false [] [⟨.faddr 1 (.t 2), some 19, none⟩,
      ⟨.load false 1 (.t 19), some 20, none⟩,
      ⟨.mv (.t 6), some 21, none⟩,
      ⟨.iaddr 37 (.t 20) (.t 21), some 22, none⟩,
      ⟨.faddr 34 (.t 22), some 23, none⟩,
      ⟨.load false 1 (.t 23), some 24, none⟩,
      ⟨.mv (.t 24), some 18, none⟩])
    (.keep [2, 4, 6, 18] (.cond (.t 18)
    (.seq (.reg false [] [⟨.build (J6 default) [], some 25, none⟩,
        ⟨.store 3 (.t 4) (.t 25), none, none⟩,
        ⟨.mv (.c (.p (.i .i64 23))), some 5, none⟩])
      (.ret))
    (.skip))))))))
  (.seq (.reg false [] [⟨.faddr 1 (.t 2), some 26, none⟩,
    ⟨.load false 1 (.t 26), some 27, none⟩,
    ⟨.call Jz [(.t 27)] 1, some 28, none⟩,
    ⟨.mv (.t 6), some 29, none⟩,
    ⟨.mv (.t 6), some 30, none⟩,
    ⟨.bin .add .plain (.t 30) (.c (.p (.i .i64 1))), some 31, none⟩,
    ⟨.callo J0B [true] [(.t 28), (.t 29), (.t 31)] 0, some 32, none⟩,
    ⟨.faddr 1 (.t 2), some 33, none⟩,
    ⟨.store 1 (.t 33) (.t 32), none, none⟩])
  (.keep [2, 4, 6] (.seq (.seq (.reg false [] [⟨.mv (.t 6), some 34, none⟩,
    ⟨.faddr 2 (.t 2), some 35, none⟩,
    ⟨.load false 1 (.t 35), some 36, none⟩,
    ⟨.bin .lss .plain (.t 34) (.t 36), some 37, none⟩])
  (.keep [2, 4, 37] (.cond (.t 37)
  (.reg false [] [⟨.faddr 2 (.t 2), some 38, none⟩,
      ⟨.load false 1 (.t 38), some 39, none⟩,
      ⟨.bin .sub .plain (.t 39) (.c (.p (.i .i64 1))), some 40, none⟩,
      ⟨.faddr 2 (.t 2), some 41, none⟩,
      ⟨.store 1 (.t 41) (.t 40), none, none⟩])
  (.skip))))
  (.keep [2, 4] J6V)))))))))
def J3H : AFn := ⟨2, 50, J1t, [.cell 4 true 3, .tmp 5], false⟩
def J5d : Jk := .seq (.reg false [] [⟨.box 3 (.t 0), some 2, none⟩,
    ⟨.newbox (Ja default), some 4, none⟩,
    ⟨.mv (.c (.p (.b false))), some 5, none⟩])
  (.keep [1, 2, 4] (.seq (.seq (.reg false [] [⟨.load true 3 (.t 2), some 7, none⟩,
    ⟨.mv (.t 1), some 8, none⟩,
    ⟨.call J5z [(.t 7), (.t 8)] 0, some 9, none⟩,
    ⟨.mv (.t 9), some 6, none⟩])
  (.keep [2, 4, 6] (.seq (.reg false [] [⟨.mv (.t 6), some 10, none⟩,
    ⟨.bin .geq .plain (.t 10) (.c (.p (.i .i64 0))), some 11, none⟩])
  (.cond (.t 11)
  (.seq (.reg false [] [⟨.faddr 1 (.t 2), some 12, none⟩,
      ⟨.load false 1 (.t 12), some 13, none⟩,
      ⟨.mv (.t 6), some 14, none⟩,
      ⟨.iaddr 37 (.t 13) (.t 14), some 15, none⟩,
      ⟨.faddr 0 (.t 15), some 16, none⟩,
      ⟨.load true 34 (.t 16), some 17, none⟩,
      ⟨.store 34 (.t 4) (.t 17), none, none⟩,
      ⟨.mv (.c (.p (.b true))), some 5, none⟩])
    (.ret))
  (.skip)))))
  (.seq (.reg false [] [⟨.build (Ja default) [], some 18, none⟩,
    ⟨.store 34 (.t 4) (.t 18), none, none⟩,
    ⟨.mv (.c (.p (.b false))), some 5, none⟩])
  (.ret))))
def J6w : AFn := ⟨2, 19, J5d, [.cell 4 true 34, .tmp 5], false⟩
def J00 : Jk := .seq (.reg false [] [⟨.mv (.c (.p (.b false))), some 0, none⟩])
  (.seq (.reg false [] [⟨.call J54 [(.c (.p (.i .i64 2)))] 0, some 8, none⟩,
    ⟨.mv (.t 8), some 7, none⟩,
    ⟨.extr (.t 7) 0, some 9, none⟩,
    ⟨.extr (.t 7) 1, some 10, none⟩,
    ⟨.newbox (J6 default), some 1, none⟩,
    ⟨.store 3 (.t 1) (.t 9), none, none⟩,
    ⟨.mv (.t 10), some 2, none⟩])
  (.keep [1, 2] (.seq (.reg false [] [⟨.load true 3 (.t 1), some 12, none⟩,
    ⟨.build (Ja default) [(0, 1, (.c (.p (.i .i64 1))))], some 13, none⟩,
    ⟨.call J4n [(.t 12), (.t 13)] 0, some 14, none⟩,
    ⟨.mv (.t 14), some 11, none⟩,
    ⟨.extr (.t 11) 0, some 15, none⟩,
    ⟨.extr (.t 11) 1, some 16, none⟩,
    ⟨.store 3 (.t 1) (.t 15), none, none⟩,
    ⟨.mv (.t 16), some 3, none⟩])
  (.keep [1, 2, 3] (.seq (.reg false [] [⟨.load true 3 (.t 1), some 18, none⟩,
    ⟨.build (Ja default) [(0, 1, (.c (.p (.i .i64 2))))], some 19, none⟩,
    ⟨.call J4n [(.t 18), (.t 19)] 0, some 20, none⟩,
    ⟨.mv (.t 20), some 17, none⟩,
    ⟨.extr (.t 17) 0, some 21, none⟩,
    ⟨.extr (.t 17) 1, some 22, none⟩,
    ⟨.store 3 (.t 1) (.t 21), none, none⟩,
    ⟨.mv (.t 22), some 4, none⟩])
  (.keep [1, 2, 3, 4] (.seq (.reg false [] [⟨.load true 3 (.t 1), some 24, none⟩,
    ⟨.call J43 [(.t 24)] 0, some 25, none⟩,
    ⟨.mv (.t 25), some 23, none⟩,
    ⟨.extr (.t 23) 0, some 26, none⟩,
    ⟨.extr (.t 23) 1, some 27, none⟩,
    ⟨.extr (.t 23) 2, some 28, none⟩,
    ⟨.store 3 (.t 1) (.t 26), none, none⟩,
    ⟨.mv (.t 27), some 5, none⟩,
    ⟨.mv (.t 28), some 6, none⟩])
  (.keep [1, 2, 3, 4, 5, 6] (.seq (.reg false [] [⟨.mv (.t 2), some 29, none⟩,
    ⟨.bin .eql .plain (.t 29) (.c (.p (.i .i64 0))), some 30, none⟩,
    ⟨.mv (.t 30), some 31, none⟩,
    ⟨.mv (.t 3), some 32, some (31, true)⟩,
    ⟨.bin .eql .plain (.t 32) (.c (.p (.i .i64 0))), some 33, some (31, true)⟩,
    ⟨.pick (.t 31) (.t 33) (.c (.p (.b false))), some 34, none⟩,
    ⟨.mv (.t 34), some 35, none⟩,
    ⟨.mv (.t 4), some 36, some (35, true)⟩,
    ⟨.bin .eql .plain (.t 36) (.c (.p (.i .i64 0))), some 37, some (35, true)⟩,
    ⟨.pick (.t 35) (.t 37) (.c (.p (.b false))), some 38, none⟩,
    ⟨.mv (.t 38), some 39, none⟩,
    ⟨.mv (.t 6), some 40, some (39, true)⟩,
    ⟨.bin .eql .plain (.t 40) (.c (.p (.i .i64 0))), some 41, some (39, true)⟩,
    ⟨.pick (.t 39) (.t 41) (.c (.p (.b false))), some 42, none⟩,
    ⟨.mv (.t 42), some 43, none⟩,
    ⟨.mv (.t 5), some 44, some (43, true)⟩,
    ⟨.bin .eql .plain (.t 44) (.c (.p (.i .i64 1))), some 45, some (43, true)⟩,
    ⟨.pick (.t 43) (.t 45) (.c (.p (.b false))), some 46, none⟩,
    ⟨.mv (.t 46), some 47, none⟩,
    ⟨.faddr 1 (.t 1), some 48, some (47, true)⟩,
    ⟨.load false 1 (.t 48), some 49, some (47, true)⟩,
    ⟨.len false (.t 49), some 50, some (47, true)⟩,
    ⟨.bin .eql .plain (.t 50) (.c (.p (.i .i64 2))), some 51, some (47, true)⟩,
    ⟨.pick (.t 47) (.t 51) (.c (.p (.b false))), some 52, none⟩,
    ⟨.mv (.t 52), some 53, none⟩,
    ⟨.faddr 1 (.t 1), some 54, some (53, true)⟩,
    ⟨.load false 1 (.t 54), some 55, some (53, true)⟩,
    ⟨.iaddr 37 (.t 55) (.c (.p (.i .i64 0))), some 56, some (53, true)⟩,
    ⟨.faddr 36 (.t 56), some 57, some (53, true)⟩,
    ⟨.load false 1 (.t 57), some 58, some (53, true)⟩,
    ⟨.un .not (.t 58), some 59, some (53, true)⟩,
    ⟨.pick (.t 53) (.t 59) (.c (.p (.b false))), some 60, none⟩,
    ⟨.mv (.t 60), some 61, none⟩,
    ⟨.faddr 1 (.t 1), some 62, some (61, true)⟩,
    ⟨.load false 1 (.t 62), some 63, some (61, true)⟩,
    ⟨.iaddr 37 (.t 63) (.c (.p (.i .i64 1))), some 64, some (61, true)⟩,
    ⟨.faddr 36 (.t 64), some 65, some (61, true)⟩,
    ⟨.load false 1 (.t 65), some 66, some (61, true)⟩,
    ⟨.un .not (.t 66), some 67, some (61, true)⟩,
    ⟨.pick (.t 61) (.t 67) (.c (.p (.b false))), some 68, none⟩,
    ⟨.mv (.t 68), some 0, none⟩])
  (.ret))))))))))
def J4a : AFn := ⟨0, 69, J00, [.tmp 0], false⟩
def JW : Jk := .seq (.reg false [] [⟨.load true 3 (.t 4), some 89, none⟩,
    ⟨.call J50 [(.t 89)] 0, some 90, none⟩,
    ⟨.mv (.t 90), some 14, none⟩])
  (.keep [3, 4, 7, 8, 14] (.seq (.seq (.reg false [] [⟨.mv (.t 14), some 91, none⟩,
    ⟨.len false (.t 91), some 92, none⟩,
    ⟨.bin .eql .plain (.t 92) (.c (.p (.i .i64 1))), some 93, none⟩,
    ⟨.mv (.t 8), some 94, none⟩,
    ⟨.bin .gtr .plain (.t 94) (.c (.p (.i .i64 0))), some 95, none⟩,
    ⟨.bin .neq .bool (.t 93) (.t 95), some 96, none⟩,
    ⟨.mv (.t 96), some 97, none⟩,
    ⟨.mv (.t 8), some 98, some (97, false)⟩,
    ⟨.bin .gtr .plain (.t 98) (.c (.p (.i .i64 0))), some 99, some (97, false)⟩,
    ⟨.mv (.t 99), some 100, some (97, false)⟩,
    ⟨.mv (.t 14), some 101, some (100, true)⟩,
    ⟨.iaddr 3 (.t 101) (.c (.p (.i .i64 0))), some 102, some (100, true)⟩,
    ⟨.load true 3 (.t 102), some 103, some (100, true)⟩,
    ⟨.mv (.t 8), some 104, some (100, true)⟩,
    ⟨.mv (.t 7), some 105, some (100, true)⟩,
    ⟨.build (Jc default) [(0, 1, (.c (.p (.i .i64 4)))), (1, 1, (.t 104)), (2, 1, (.t 105))], some 106, some (100, true)⟩,
    ⟨.bin .neq (.flat [(.i .i64), (.i .i64), (.i .i64)]) (.t 103) (.t 106), some 107, some (100, true)⟩,
    ⟨.pick (.t 100) (.t 107) (.c (.p (.b false))), some 108, some (97, false)⟩,
    ⟨.pick (.t 97) (.c (.p (.b true))) (.t 108), some 109, none⟩])
  (.keep [3, 4, 7, 8, 109] (.cond (.t 109)
  (.seq (.reg false [] [⟨.mv (.c (.p (.b false))), some 2, none⟩])
    (.ret))
  (.skip))))
  (.seq (.reg false [] [⟨.load true 3 (.t 4), some 111, none⟩,
    ⟨.call J5A [(.t 111), (.c (.p (.i .i64 4)))] 0, some 112, none⟩,
    ⟨.mv (.t 112), some 110, none⟩,
    ⟨.extr (.t 110) 0, some 113, none⟩,
    ⟨.extr (.t 110) 1, some 114, none⟩,
    ⟨.newbox (J6 default), some 15, none⟩,
    ⟨.store 3 (.t 15) (.t 113), none, none⟩,
    ⟨.mv (.t 114), some 16, none⟩])
  (.keep [3, 4, 7, 8, 16] (.seq (.reg false [] [⟨.mv (.t 16), some 115, none⟩,
    ⟨.bin .eql .plain (.t 115) (.c (.p (.i .i64 23))), some 116, none⟩,
    ⟨.mv (.t 8), some 117, none⟩,
    ⟨.bin .gtr .plain (.t 117) (.c (.p (.i .i64 0))), some 118, none⟩,
    ⟨.bin .neq .bool (.t 116) (.t 118), some 119, none⟩])
  (.keep [3, 4, 7, 8, 119] (.cond (.t 119)
  (.seq (.reg false [] [⟨.mv (.c (.p (.b false))), some 2, none⟩])
    (.ret))
  (.skip))))))))
def Jo : Jk := .seq (.seq (.reg false [] [⟨.mv (.t 3), some 39, none⟩,
    ⟨.call J2x [(.t 39)] 0, some 40, none⟩,
    ⟨.bin .gtr .plain (.t 40) (.c (.p (.i .i64 0))), some 41, none⟩])
  (.keep [3, 4, 7, 8, 41] (.cond (.t 41)
  (.skip)
  (.exit 0))))
  (.block 1 (.seq (.tidy [2, 3, 4, 7, 8] (.seq (.reg false [] [⟨.mv (.t 3), some 42, none⟩,
    ⟨.call J05 [(.t 42), (.c (.p (.i .i64 3)))] 0, some 43, none⟩,
    ⟨.bin .gtr .plain (.t 43) (.c (.p (.i .i64 0))), some 44, none⟩])
  (.keep [3, 4, 7, 8, 44] (.cond (.t 44)
  (.seq (.reg false [] [⟨.mv (.t 7), some 45, none⟩,
      ⟨.mv (.t 3), some 46, none⟩,
      ⟨.call J05 [(.t 46), (.c (.p (.i .i64 3)))] 0, some 47, none⟩,
      ⟨.bin .add .plain (.c (.p (.i .i64 1))) (.t 47), some 48, none⟩,
      ⟨.bin .add .plain (.t 45) (.t 48), some 49, none⟩,
      ⟨.mv (.t 49), some 7, none⟩])
    (.keep [3, 4, 7, 8] (.seq (.reg false [] [⟨.load true 3 (.t 4), some 51, none⟩,
      ⟨.mv (.t 7), some 52, none⟩,
      ⟨.build (Ja default) [(0, 1, (.c (.p (.i .i64 4)))), (1, 1, (.t 52))], some 53, none⟩,
      ⟨.call J3Y [(.t 51), (.t 53)] 0, some 54, none⟩,
      ⟨.mv (.t 54), some 50, none⟩,
      ⟨.extr (.t 50) 0, some 55, none⟩,
      ⟨.extr (.t 50) 1, some 56, none⟩,
      ⟨.newbox (J6 default), some 9, none⟩,
      ⟨.store 3 (.t 9) (.t 55), none, none⟩,
      ⟨.mv (.t 56), some 10, none⟩])
    (.keep [3, 4, 7, 8, 9, 10] (.seq (.seq (.reg false [] [⟨.mv (.t 10), some 57, none⟩,
      ⟨.bin .neq .plain (.t 57) (.c (.p (.i .i64 0))), some 58, none⟩])
    (.cond (.t 58)
    (.seq (.reg false [] [⟨.mv (.c (.p (.b false))), some 2, none⟩])
      (.ret))
    (.skip)))
    (.seq (.reg false [] [⟨.load true 3 (.t 9), some 59, none⟩,
      ⟨.store 3 (.t 4) (.t 59), none, none⟩])
    (.seq (.reg false [] [⟨.mv (.t 8), some 60, none⟩,
      ⟨.bin .eql .plain (.t 60) (.c (.p (.i .i64 0))), some 61, none⟩])
    (.cond (.t 61)
    (.reg false [] [⟨.mv (.t 7), some 62, none⟩,
        ⟨.mv (.t 62), some 8, none⟩])
    (.skip)))))))))
  (.seq (.reg false [] [⟨.mv (.t 7), some 63, none⟩,
      ⟨.mv (.t 3), some 64, none⟩,
      ⟨.call J05 [(.t 64), (.c (.p (.i .i64 4)))] 0, some 65, none⟩,
      ⟨.bin .sub .plain (.t 63) (.t 65), some 66, none⟩,
      ⟨.mm true (.c (.p (.i .i64 0))) (.t 66), some 67, none⟩,
      ⟨.mv (.t 67), some 11, none⟩])
    (.keep [3, 4, 7, 8, 11] (.seq (.reg false [] [⟨.load true 3 (.t 4), some 69, none⟩,
      ⟨.mv (.t 11), some 70, none⟩,
      ⟨.call J4U [(.t 69), (.c (.p (.i .i64 4))), (.t 70)] 0, some 71, none⟩,
      ⟨.mv (.t 71), some 68, none⟩,
      ⟨.extr (.t 68) 0, some 72, none⟩,
      ⟨.extr (.t 68) 1, some 73, none⟩,
      ⟨.newbox (J6 default), some 12, none⟩,
      ⟨.store 3 (.t 12) (.t 72), none, none⟩,
      ⟨.mv (.t 73), some 13, none⟩])
    (.keep [3, 4, 7, 8, 11, 12, 13] (.seq (.seq (.reg false [] [⟨.mv (.t 13), some 74, none⟩,
      ⟨.bin .neq .plain (.t 74) (.c (.p (.i .i64 0))), some 75, none⟩])
    (.cond (.t 75)
    (.seq (.reg false [] [⟨.mv (.c (.p (.b false))), some 2, none⟩])
      (.ret))
    (.skip)))
    (.seq (.reg false [] [⟨.load true 3 (.t 12), some 76, none⟩,
      ⟨.store 3 (.t 4) (.t 76), none, none⟩])
    (.seq (.reg false [] [⟨.mv (.t 11), some 77, none⟩,
      ⟨.mv (.t 7), some 78, none⟩,
      ⟨.bin .eql .plain (.t 77) (.t 78), some 79, none⟩])
    (.keep [3, 4, 7, 8, 11, 79] (.cond (.t 79)
    (.reg false [] [⟨.mv (.c (.p (.i .i64 0))), some 8, none⟩])
    (.seq (.reg false [] [⟨.mv (.t 8), some 80, none⟩,
        ⟨.bin .gtr .plain (.t 80) (.c (.p (.i .i64 0))), some 81, none⟩,
        ⟨.mv (.t 81), some 82, none⟩,
        ⟨.mv (.t 8), some 83, some (82, true)⟩,
        ⟨.mv (.t 11), some 84, some (82, true)⟩,
        ⟨.bin .leq .plain (.t 83) (.t 84), some 85, some (82, true)⟩,
        ⟨.pick (.t 82) (.t 85) (.c (.p (.b false))), some 86, none⟩])
      (.keep [3, 4, 7, 8, 11, 86] (.cond (.t 86)
      (.reg false [] [⟨.mv (.t 11), some 87, none⟩,
          ⟨.bin .add .plain (.t 87) (.c (.p (.i .i64 1))), some 88, none⟩,
          ⟨.mv (.t 88), some 8, none⟩])
      (.skip)))))))))))))))))
  (.keep [3, 4, 7, 8] JW)))
def J09 : Jk := .seq (.reg false [] [⟨.load true 3 (.t 4), some 121, none⟩,
    ⟨.call J6q [(.t 121), (.c (.p (.i .i64 4)))] 0, some 122, none⟩,
    ⟨.mv (.t 122), some 120, none⟩,
    ⟨.extr (.t 120) 0, some 123, none⟩,
    ⟨.extr (.t 120) 1, some 124, none⟩,
    ⟨.newbox (Ja default), some 17, none⟩,
    ⟨.store 34 (.t 17) (.t 123), none, none⟩,
    ⟨.mv (.t 124), some 18, none⟩])
  (.keep [7, 17, 18] (.seq (.reg false [] [⟨.mv (.t 18), some 125, none⟩,
    ⟨.mv (.t 125), some 126, none⟩,
    ⟨.faddr 1 (.t 17), some 127, some (126, true)⟩,
    ⟨.load false 1 (.t 127), some 128, some (126, true)⟩,
    ⟨.mv (.t 7), some 129, some (126, true)⟩,
    ⟨.bin .eql .plain (.t 128) (.t 129), some 130, some (126, true)⟩,
    ⟨.pick (.t 126) (.t 130) (.c (.p (.b false))), some 131, none⟩,
    ⟨.mv (.t 131), some 132, none⟩,
    ⟨.load true 34 (.t 17), some 133, some (132, true)⟩,
    ⟨.call J3Z [(.t 133)] 0, some 134, some (132, true)⟩,
    ⟨.pick (.t 132) (.t 134) (.c (.p (.b false))), some 135, none⟩,
    ⟨.mv (.t 135), some 2, none⟩])
  (.ret)))
def J0G : Jk := .seq (.reg false [] [⟨.mv (.c (.p (.b false))), some 2, none⟩])
  (.seq (.seq (.reg false [] [⟨.call J4d [] 0, some 19, none⟩,
    ⟨.un .not (.t 19), some 20, none⟩])
  (.cond (.t 20)
  (.seq (.reg false [] [⟨.mv (.c (.p (.b false))), some 2, none⟩])
    (.ret))
  (.skip)))
  (.seq (.reg false [] [⟨.mv (.t 0), some 21, none⟩,
    ⟨.call J6f [(.t 21), (.c (.p (.i .i64 120)))] 1, some 22, none⟩,
    ⟨.mv (.t 22), some 3, none⟩])
  (.keep [3] (.seq (.reg false [] [⟨.call J54 [(.c (.p (.i .i64 1)))] 0, some 24, none⟩,
    ⟨.mv (.t 24), some 23, none⟩,
    ⟨.extr (.t 23) 0, some 25, none⟩,
    ⟨.extr (.t 23) 1, some 26, none⟩,
    ⟨.newbox (J6 default), some 4, none⟩,
    ⟨.store 3 (.t 4) (.t 25), none, none⟩,
    ⟨.mv (.t 26), some 5, none⟩])
  (.keep [3, 4, 5] (.seq (.reg false [] [⟨.load true 3 (.t 4), some 28, none⟩,
    ⟨.build (Ja default) [(0, 1, (.c (.p (.i .i64 4))))], some 29, none⟩,
    ⟨.call J4n [(.t 28), (.t 29)] 0, some 30, none⟩,
    ⟨.mv (.t 30), some 27, none⟩,
    ⟨.extr (.t 27) 0, some 31, none⟩,
    ⟨.extr (.t 27) 1, some 32, none⟩,
    ⟨.store 3 (.t 4) (.t 31), none, none⟩,
    ⟨.mv (.t 32), some 6, none⟩])
  (.keep [3, 4, 5, 6] (.seq (.seq (.reg false [] [⟨.mv (.t 5), some 33, none⟩,
    ⟨.bin .neq .plain (.t 33) (.c (.p (.i .i64 0))), some 34, none⟩,
    ⟨.mv (.t 34), some 35, none⟩,
    ⟨.mv (.t 6), some 36, some (35, false)⟩,
    ⟨.bin .neq .plain (.t 36) (.c (.p (.i .i64 0))), some 37, some (35, false)⟩,
    ⟨.pick (.t 35) (.c (.p (.b true))) (.t 37), some 38, none⟩])
  (.keep [3, 4, 38] (.cond (.t 38)
  (.seq (.reg false [] [⟨.mv (.c (.p (.b false))), some 2, none⟩])
    (.ret))
  (.skip))))
  (.seq (.reg false [] [⟨.mv (.c (.p (.i .i64 0))), some 7, none⟩,
    ⟨.mv (.c (.p (.i .i64 0))), some 8, none⟩])
  (.seq (.tidy [2, 4, 7] (.block 0 (.loop [3, 4, 7, 8] Jo)))
  (.keep [4, 7] J09)))))))))))
def J0q : AFn := ⟨1, 136, J0G, [.tmp 2], false⟩
theorem JiN : J58.res = [.tmp 4] ∧ J58.fresh = false := ⟨rfl, rfl⟩
theorem J4F : J2E.res = [.tmp 4] ∧ J2E.fresh = false := ⟨rfl, rfl⟩
theorem Jc1 : J2y.res = [.tmp 2] ∧ J2y.fresh = false := ⟨rfl, rfl⟩
theorem Ja9 : J6z.res = [.cell 2 true 3, .tmp 3] ∧ J6z.fresh = false := ⟨rfl, rfl⟩
theorem J7p : J1H.res = [.tmp 2] ∧ J1H.fresh = false := ⟨rfl, rfl⟩
theorem Jf0 : J3K.res = [.tmp 3] ∧ J3K.fresh = false := ⟨rfl, rfl⟩
theorem J2O : Jq.res = [.tmp 4] ∧ Jq.fresh = false := ⟨rfl, rfl⟩
theorem Ji9 : J5s.res = [.tmp 4] ∧ J5s.fresh = false := ⟨rfl, rfl⟩
theorem J6M : J0h.res = [.tmp 2] ∧ J0h.fresh = false := ⟨rfl, rfl⟩
theorem J5O : J3d.res = [.tmp 2] ∧ J3d.fresh = false := ⟨rfl, rfl⟩
theorem Jbo : J4X.res = [.tmp 2] ∧ J4X.fresh = false := ⟨rfl, rfl⟩
theorem Jbb : JF.res = [.cell 0 true 16] ∧ JF.fresh = false := ⟨rfl, rfl⟩
theorem J6E : J2C.res = [.tmp 2] ∧ J2C.fresh = false := ⟨rfl, rfl⟩
theorem J81 : J40.res = [.tmp 2] ∧ J40.fresh = false := ⟨rfl, rfl⟩
theorem JaU : J1v.res = [] ∧ J1v.fresh = false := ⟨rfl, rfl⟩
theorem Jik : J23.res = [.tmp 2] ∧ J23.fresh = false := ⟨rfl, rfl⟩
theorem J9O : J1z.res = [.tmp 6] ∧ J1z.fresh = false := ⟨rfl, rfl⟩
theorem J7U : J1m.res = [.tmp 2] ∧ J1m.fresh = false := ⟨rfl, rfl⟩
theorem Jb1 : J4Y.res = [.tmp 2] ∧ J4Y.fresh = false := ⟨rfl, rfl⟩
theorem J7Y : J1l.res = [.tmp 2, .tmp 3] ∧ J1l.fresh = false := ⟨rfl, rfl⟩
theorem Jav : J46.res = [.tmp 2] ∧ J46.fresh = false := ⟨rfl, rfl⟩
theorem J1B : J1E.res = [.tmp 2] ∧ J1E.fresh = false := ⟨rfl, rfl⟩
theorem Jcv : J5u.res = [.tmp 4] ∧ J5u.fresh = false := ⟨rfl, rfl⟩
theorem J85 : J1o.res = [.cell 2 true 3, .tmp 3, .tmp 4] ∧ J1o.fresh = false := ⟨rfl, rfl⟩
theorem J7r : J6i.res = [.cell 4 true 3, .tmp 5] ∧ J6i.fresh = false := ⟨rfl, rfl⟩
theorem J5p : J3l.res = [.cell 4 true 3, .tmp 5] ∧ J3l.fresh = false := ⟨rfl, rfl⟩
theorem J5Y : J3N.res = [.cell 6 true 3, .tmp 7] ∧ J3N.fresh = false := ⟨rfl, rfl⟩
theorem Jbj : J1C.res = [.tmp 2] ∧ J1C.fresh = false := ⟨rfl, rfl⟩
theorem J7L : J3H.res = [.cell 4 true 3, .tmp 5] ∧ J3H.fresh = false := ⟨rfl, rfl⟩
theorem JdA : J6w.res = [.cell 4 true 34, .tmp 5] ∧ J6w.fresh = false := ⟨rfl, rfl⟩
theorem J2J : J4a.res = [.tmp 0] ∧ J4a.fresh = false := ⟨rfl, rfl⟩
theorem J0r : J0q.res = [.tmp 2] ∧ J0q.fresh = false := ⟨rfl, rfl⟩
def fns : List (FuncId × AFn) := [(J6f, J58), (J05, J2E), (J2x, J2y), (J54, J6z), (J3V, J1H), (J0C, J3K), (JY, Jq), (J22, J5s), (JZ, J0h), (J3f, J3d), (J4K, J4X), (J2c, JF), (J5N, J93), (J2z, J2C), (J89, J87), (J8a, J88), (J6R, J6N), (J3h, J40), (J0E, J1v), (J4A, J23), (J19, J1z), (J6H, J8b), (J4f, J1m), (J4M, J4Y), (J3m, J1l), (J3Z, J46), (J1n, J1E), (J5z, J5u), (J43, J1o), (J5P, J92), (J4n, J6i), (J3Y, J3l), (J4U, J3N), (J50, J1C), (J5A, J3H), (J6q, J6w), (J4d, J4a), (J4I, J0q)]
def Jgh : List (FuncId × J7s) := [(Jz, J0H)]
def Jgj : List (FuncId × (List AV → List Blk → Option Res)) := [(J1f, Jgr), (J1I, Jhz), (J0p, (Jal 3 166 J5o Jc (fun x : T_api_Dirty => x.Page))), (J0B, (JcT 37 (J3 (⟨(⟨0, 0, (Vector.replicate 16 (⟨false, []⟩ : Je))⟩ : J9), false, 0, false⟩ : T_api_Frame))))]
def lkF {α : Type} (f : FuncId) : List (FuncId × α) → Option α
  | [] => none
  | (g, a) :: r => if f = g then some a else lkF f r
def J5 (prims : FuncId → Option (List AV → List Blk → Option Res)) : J3n := fun f => Jp8 (lkF f fns) (lkF f Jgh) (lkF f Jgj) (prims f)
theorem Jj7 (p) : J5 p J6f = some (.fn J58) := rfl
theorem Jcn (p) : J5 p J05 = some (.fn J2E) := rfl
theorem Jc9 (p) : J5 p J2x = some (.fn J2y) := rfl
theorem Jjh (p) : J5 p J54 = some (.fn J6z) := rfl
theorem Jhv (p) : J5 p J3V = some (.fn J1H) := rfl
theorem Jex (p) : J5 p J0C = some (.fn J3K) := rfl
theorem J5H (p) : J5 p JY = some (.fn Jq) := rfl
theorem Ji8 (p) : J5 p J22 = some (.fn J5s) := rfl
theorem J6J (p) : J5 p JZ = some (.fn J0h) := rfl
theorem JdK (p) : J5 p J3f = some (.fn J3d) := rfl
theorem JgS (p) : J5 p J4K = some (.fn J4X) := rfl
theorem JbE (p) : J5 p J2c = some (.fn JF) := rfl
theorem Jc6 (p) : J5 p J2z = some (.fn J2C) := rfl
theorem JfJ (p) : J5 p J3h = some (.fn J40) := rfl
theorem JaK (p) : J5 p J0E = some (.fn J1v) := rfl
theorem JhS (p) : J5 p J4A = some (.fn J23) := rfl
theorem J9r (p) : J5 p J19 = some (.fn J1z) := rfl
theorem JfQ (p) : J5 p J4f = some (.fn J1m) := rfl
theorem Jgt (p) : J5 p J4M = some (.fn J4Y) := rfl
theorem JfR (p) : J5 p J3m = some (.fn J1l) := rfl
theorem JfK (p) : J5 p J3Z = some (.fn J46) := rfl
theorem Jhb (p) : J5 p J1n = some (.fn J1E) := rfl
theorem Jih (p) : J5 p J5z = some (.fn J5u) := rfl
theorem JfW (p) : J5 p J43 = some (.fn J1o) := rfl
theorem JiU (p) : J5 p J4n = some (.fn J6i) := rfl
theorem Jg5 (p) : J5 p J3Y = some (.fn J3l) := rfl
theorem Jh8 (p) : J5 p J4U = some (.fn J3N) := rfl
theorem Jhj (p) : J5 p J50 = some (.fn J1C) := rfl
theorem Jig (p) : J5 p J5A = some (.fn J3H) := rfl
theorem Jjc (p) : J5 p J6q = some (.fn J6w) := rfl
theorem Jg0 (p) : J5 p J4d = some (.fn J4a) := rfl
theorem Jcc (p) : J5 p J4I = some (.fn J0q) := rfl
theorem J6A (p) : J5 p Jz = some (.fork J0H) := rfl
theorem Ji0 (p) : J5 p J1f = some (.prim Jgr) := rfl
theorem Jda (p) : J5 p J1I = some (.prim Jhz) := rfl
theorem J5V (p) : J5 p J0p = some (.prim (Jal 3 166 J5o Jc (fun x : T_api_Dirty => x.Page))) := rfl
theorem J6h (p) : J5 p J0B = some (.prim (JcT 37 (J3 (⟨(⟨0, 0, (Vector.replicate 16 (⟨false, []⟩ : Je))⟩ : J9), false, 0, false⟩ : T_api_Frame)))) := rfl
end Go.Am
end
section
namespace Go.Am
set_option maxRecDepth 8000
set_option maxHeartbeats 4000000
set_option linter.unusedSimpArgs false
set_option linter.unusedVariables false
noncomputable section
variable (p : FuncId → Option (List AV → List Blk → Option Res))
def Jaq  (r : T_pagemenddraw_Codes) : Option Res := some (.ptr 0 0, [.box (List.map AV.p (J7 r))])
def J4W (x0 : List Int) : Option (T_pagemenddraw_Codes) :=
  some (⟨x0, 0⟩ : T_pagemenddraw_Codes)
theorem Jbs {x0 : List Int} {o : T_pagemenddraw_Codes} (h : J4W x0 = some o) :
    rk (J5 p) J58 0 [] (X (J5 p) J8C ⟨[(0, .p (.sl 1 (List.map (r_i .u8) x0)))], []⟩) = Jaq o := by
  unfold J4W at h
  obtain rfl := sj h
  try simp only [↓Da, Ua, J8C, Jh, JiN, ↓reduceIte, Nat.reduceEqDiff, Nat.reduceAdd, Nat.reduceLT, Nat.reduceMul]
  rfl
def J3A (x0 : List Int) (x1 : Int) : Option (T_pagemenddraw_Codes) :=
  if (decide (((List.length x0 : Nat) : Int) > x1)) then
    Option.bind (Jd7 x0 none (some x1)) fun m2 =>
    J4W m2
  else
    J4W x0
theorem Jev {x0 : List Int} {x1 : Int} {o : T_pagemenddraw_Codes} (h : J3A x0 x1 = some o) :
    rk (J5 p) J58 0 [] (X (J5 p) J6p ⟨[(0, .p (.sl 1 (List.map (r_i .u8) x0))), (1, .p (.i .i64 x1))], []⟩) = Jaq o := by
  unfold J3A at h
  rcases Jg h with ⟨h1, h⟩ | ⟨h1, h⟩
  · obtain ⟨m2, h3, h⟩ := bi h
    have f4 : J68 1 (.p (.sl 1 (List.map (r_i .u8) x0))) none (some (.p (.i .i64 x1))) = some (.p (.sl 1 (List.map (r_i .u8) m2))) := Jku (k := .i64) (lo := none) (hi := (some x1)) h3
    try simp only [Nf] at f4
    try simp only [↓Da, Ua, J6p, Jh, *, ↓reduceIte, Nat.reduceEqDiff, Nat.reduceAdd, Nat.reduceLT, Nat.reduceMul]
    have e0 := Jbs p h
    first | exact e0 | (simp only [*] at e0; exact e0)
  · try simp only [↓Da, Ua, J6p, Jh, *, ↓reduceIte, Nat.reduceEqDiff, Nat.reduceAdd, Nat.reduceLT, Nat.reduceMul]
    have e0 := Jbs p h
    first | exact e0 | (simp only [*] at e0; exact e0)
theorem Jjo {x0 : List Int} {x1 : Int} {o : T_pagemenddraw_Codes} (h : J3A x0 x1 = some o) : AF (J5 p) J6f [.p (.sl 1 (List.map (r_i .u8) x0)), .p (.i .i64 x1)] [] = Jaq o :=
  (J1e (J5 p) (Jj7 p) rfl).trans (Jev p h)
def J4E  (r : Int × T_pagemenddraw_Codes) : Option Res := some (.p (.i .i64 r.1), [.box (List.map AV.p (J7 r.2))])
def J1X (rec : T_pagemenddraw_Codes → Int → Option (Int × T_pagemenddraw_Codes)) (b0 : T_pagemenddraw_Codes) (x1 : Int) : Option (Int × T_pagemenddraw_Codes) :=
  if (decide (b0.at_ ≥ ((List.length b0.l_ : Nat) : Int))) then
    some (0, b0)
  else
    if (decide (x1 < 1)) then
      some (0, b0)
    else
      Option.bind (idx b0.l_ b0.at_) fun y3 =>
      if (decide (x1 > 256)) then
        Option.bind (rec (⟨b0.l_, (IntKind.wrap .i64 (b0.at_ + 1))⟩ : T_pagemenddraw_Codes) 256) fun r7 =>
        Option.bind (Jbq (IntKind.wrap .i64 ((IntKind.wrap .i64 (256 * (IntKind.wrap .i64 y3))) + r7.1)) x1) fun q10 =>
        some (q10, r7.2)
      else
        Option.bind (Jbq (IntKind.wrap .i64 y3) x1) fun q12 =>
        some (q12, (⟨b0.l_, (IntKind.wrap .i64 (b0.at_ + 1))⟩ : T_pagemenddraw_Codes))
theorem J9M {rec : T_pagemenddraw_Codes → Int → Option (Int × T_pagemenddraw_Codes)} (hrec : ∀ {b0 : T_pagemenddraw_Codes} {x1 : Int} {o : Int × T_pagemenddraw_Codes}, rec b0 x1 = some o → AF (J5 p) J05 [.ptr 0 0, .p (.i .i64 x1)] [.box (List.map AV.p (J7 b0))] = J4E o) {b0 : T_pagemenddraw_Codes} {x1 : Int} {o : Int × T_pagemenddraw_Codes} (h : J1X rec b0 x1 = some o) :
    rk (J5 p) J2E 1 [] (X (J5 p) J0N ⟨[(0, .ptr 0 0), (1, .p (.i .i64 x1))], [.box (List.map AV.p (J7 b0))]⟩) = J4E o := by
  unfold J1X at h
  rcases Jg h with ⟨h1, h⟩ | ⟨h1, h⟩
  · obtain rfl := sj h
    try simp only [↓Da, Ua, J0N, Jh, J4F, *, ↓reduceIte, Nat.reduceEqDiff, Nat.reduceAdd, Nat.reduceLT, Nat.reduceMul]
    rfl
  · try simp only [↓Da, Ua, J0N, Jh, *, ↓reduceIte, Nat.reduceEqDiff, Nat.reduceAdd, Nat.reduceLT, Nat.reduceMul]
    rcases Jg h with ⟨h2, h⟩ | ⟨h2, h⟩
    · obtain rfl := sj h
      try simp only [↓Da, Ua, J0N, Jh, J4F, *, ↓reduceIte, Nat.reduceEqDiff, Nat.reduceAdd, Nat.reduceLT, Nat.reduceMul]
      rfl
    · obtain ⟨y3, h4, h⟩ := bi h
      have f5 := J3b (r := (r_i .u8)) h4
      try simp only [Nf] at f5
      try simp only [↓Da, Ua, J0N, Jh, *, ↓reduceIte, Nat.reduceEqDiff, Nat.reduceAdd, Nat.reduceLT, Nat.reduceMul]
      rcases Jg h with ⟨h6, h⟩ | ⟨h6, h⟩
      · obtain ⟨r7, h8, h⟩ := bi h
        have f9 : ∀ ws new s, J2Q ws s [0] [List.map AV.p (J7 (⟨b0.l_, (IntKind.wrap .i64 (b0.at_ + 1))⟩ : T_pagemenddraw_Codes))] → (Jr (AF (J5 p)) J05 ([.ptr 0 0, .p (.i .i64 256)], ws) 0 new).run s = some ⟨.p (.i .i64 r7.1), ws ++ [(0, .box (List.map AV.p (J7 r7.2)))]⟩ := J3F (args' := [.ptr 0 0, .p (.i .i64 256)]) (bs := [0]) (css := [List.map AV.p (J7 (⟨b0.l_, (IntKind.wrap .i64 (b0.at_ + 1))⟩ : T_pagemenddraw_Codes))]) (css' := [List.map AV.p (J7 r7.2)]) rfl rfl rfl (by simp [J0J, JV]) (hrec h8) rfl rfl (by simp [J0J, JV])
        try simp only [Nf] at f9
        obtain ⟨q10, h11, h⟩ := bi h
        obtain rfl := sj h
        try simp only [↓Da, Ua, J0N, Jh, J4F, *, ↓reduceIte, Nat.reduceEqDiff, Nat.reduceAdd, Nat.reduceLT, Nat.reduceMul]
        rfl
      · obtain ⟨q12, h13, h⟩ := bi h
        obtain rfl := sj h
        try simp only [↓Da, Ua, J0N, Jh, J4F, *, ↓reduceIte, Nat.reduceEqDiff, Nat.reduceAdd, Nat.reduceLT, Nat.reduceMul]
        rfl
def J20 : Nat → T_pagemenddraw_Codes → Int → Option (Int × T_pagemenddraw_Codes)
  | 0 => fun _ _ => none
  | n + 1 => J1X (J20 n)
def J2D : T_pagemenddraw_Codes → Int → Option (Int × T_pagemenddraw_Codes) := J20 12
theorem J7A : ∀ n, ∀ {b0 : T_pagemenddraw_Codes} {x1 : Int} {o : Int × T_pagemenddraw_Codes}, J20 n b0 x1 = some o → AF (J5 p) J05 [.ptr 0 0, .p (.i .i64 x1)] [.box (List.map AV.p (J7 b0))] = J4E o
  | 0 => fun h => by cases h
  | n + 1 => fun h => (J1e (J5 p) (Jcn p) rfl).trans (J9M p (J7A n) h)
theorem J6D {b0 : T_pagemenddraw_Codes} {x1 : Int} {o : Int × T_pagemenddraw_Codes} (h : J2D b0 x1 = some o) : AF (J5 p) J05 [.ptr 0 0, .p (.i .i64 x1)] [.box (List.map AV.p (J7 b0))] = J4E o := J7A p 12 h
def J86  (r : Int × T_pagemenddraw_Codes) : Option Res := some (.p (.i .i64 r.1), [.box (List.map AV.p (J7 r.2))])
def J3u (b0 : T_pagemenddraw_Codes) : Option (Int × T_pagemenddraw_Codes) :=
  some ((IntKind.wrap .i64 (((List.length b0.l_ : Nat) : Int) - b0.at_)), b0)
theorem J9J {b0 : T_pagemenddraw_Codes} {o : Int × T_pagemenddraw_Codes} (h : J3u b0 = some o) :
    rk (J5 p) J2y 1 [] (X (J5 p) J3q ⟨[(0, .ptr 0 0)], [.box (List.map AV.p (J7 b0))]⟩) = J86 o := by
  unfold J3u at h
  obtain rfl := sj h
  try simp only [↓Da, Ua, J3q, Jh, Jc1, ↓reduceIte, Nat.reduceEqDiff, Nat.reduceAdd, Nat.reduceLT, Nat.reduceMul]
  rfl
theorem Jc3 {b0 : T_pagemenddraw_Codes} {o : Int × T_pagemenddraw_Codes} (h : J3u b0 = some o) : AF (J5 p) J2x [.ptr 0 0] [.box (List.map AV.p (J7 b0))] = J86 o :=
  (J1e (J5 p) (Jc9 p) rfl).trans (J9J p h)
def JdW  (r : T_api_Pool × Int) : Option Res := some (.tup [.data (J6 r.1), .p (.i .i64 r.2)], [])
def J31 (x0 : Int) : Option (T_api_Pool × Int) :=
  if (decide (x0 < 1)) then
    some ((⟨0, ([] : List T_api_Frame), 0⟩ : T_api_Pool), 1)
  else
    if (decide (x0 > 64)) then
      some ((⟨0, ([] : List T_api_Frame), 0⟩ : T_api_Pool), 1)
    else
      some ((⟨x0, ([] : List T_api_Frame), 0⟩ : T_api_Pool), 0)
theorem JeH {x0 : Int} {o : T_api_Pool × Int} (h : J31 x0 = some o) :
    rk (J5 p) J6z 0 [] (X (J5 p) J4l ⟨[(0, .p (.i .i64 x0))], []⟩) = JdW o := by
  unfold J31 at h
  rcases Jg h with ⟨h1, h⟩ | ⟨h1, h⟩
  · obtain rfl := sj h
    try simp only [↓Da, Ua, J4l, J2, J0, J1, J8, J4, Ja9, *, ↓reduceIte, Nat.reduceEqDiff, Nat.reduceAdd, Nat.reduceLT, Nat.reduceMul]
    rfl
  · try simp only [↓Da, Ua, J4l, J2, J0, J1, J8, J4, *, ↓reduceIte, Nat.reduceEqDiff, Nat.reduceAdd, Nat.reduceLT, Nat.reduceMul]
    rcases Jg h with ⟨h2, h⟩ | ⟨h2, h⟩
    · obtain rfl := sj h
      try simp only [↓Da, Ua, J4l, J2, J0, J1, J8, J4, Ja9, *, ↓reduceIte, Nat.reduceEqDiff, Nat.reduceAdd, Nat.reduceLT, Nat.reduceMul]
      rfl
    · obtain rfl := sj h
      try simp only [↓Da, Ua, J4l, J2, J0, J1, J8, J4, Ja9, *, ↓reduceIte, Nat.reduceEqDiff, Nat.reduceAdd, Nat.reduceLT, Nat.reduceMul]
      rfl
theorem JiP {x0 : Int} {o : T_api_Pool × Int} (h : J31 x0 = some o) : AF (J5 p) J54 [.p (.i .i64 x0)] [] = JdW o :=
  (J1e (J5 p) (Jjh p) rfl).trans (JeH p h)
theorem JdB {x0 : Int} {o : T_api_Pool × Int} (h : J31 x0 = some o) : ∀ ws new st, (Jr (AF (J5 p)) J54 ([.p (.i .i64 x0)], ws) 0 new).run st = some ⟨.tup [.data (J6 o.1), .p (.i .i64 o.2)], ws⟩ := JD rfl (JiP p h) rfl
def Jcy (r : List UInt8) : Option Res := some (.p (.s r), [])
def J3D (x0 : List UInt8) (x1 : Int) (x2 : Int) : Option (List UInt8) := Jez x0 x1 x2
theorem JhR {x0 : List UInt8} {x1 : Int} {x2 : Int} {o : List UInt8} (h : J3D x0 x1 x2 = some o) : AF (J5 p) J1f [.p (.s x0), .p (.i .i64 x1), .p (.i .i64 x2)] [] = Jcy o := by
  rw [JbT (Ji0 p)]
  have h' : Jez x0 x1 x2 = some o := h
  simp only [Jgr, h', Option.map_some, Jcy]
theorem J6O {x0 : List UInt8} {x1 : Int} {x2 : Int} {o : List UInt8} (h : J3D x0 x1 x2 = some o) : ∀ ws new st, (Jr (AF (J5 p)) J1f ([.p (.s x0), .p (.i .i64 x1), .p (.i .i64 x2)], ws) 0 new).run st = some ⟨.p (.s o), ws⟩ := JD rfl (JhR p h) rfl
def J4Z  (r : Bool) : Option Res := some (.p (.b r), [])
def Jer (x6 : Vector Je 16) (b0 : J9) (o : (Int) ⊕ (Bool)) : Option Res := match o with
  | .inl s => rk (J5 p) J1H 0 [.bl 0, .td 1 [2], .sq (.keep [] J30)] (X (J5 p) (.lp 1 [1, 6, 7] J0d) ⟨[(1, .ptr 0 0), (6, .data ((JM Jf) x6)), (7, .p (.i .i64 s))], [.box (List.map AV.p (Ja b0))]⟩)
  | .inr o => J4Z o
def J4P  : Option (Bool) :=
  some true
theorem Jen {B0 : List PV} {o : Bool} (h : J4P = some o) :
    rk (J5 p) J1H 0 [] (X (J5 p) J30 ⟨[], [.box (List.map AV.p B0)]⟩) = J4Z o := by
  unfold J4P at h
  obtain rfl := sj h
  try simp only [↓Da, Ua, J30, J7p, ↓reduceIte, Nat.reduceEqDiff, Nat.reduceAdd, Nat.reduceLT, Nat.reduceMul]
  rfl
def JX (x6 : Vector Je 16) (b0 : J9) (x7 : Int) : Option (((Int) ⊕ (Bool))) :=
  if (decide (x7 < 16)) then
    Option.bind (J7G x6 x7) fun y2 =>
    if (decide (((List.length y2.Data : Nat) : Int) > 12)) then
      some (.inr false)
    else
      if y2.Set then
        if ((b0.LSN : Int) == 0) then
          some (.inr false)
        else
          some (.inl (IntKind.wrap .i64 (x7 + 1)))
      else
        if (y2.Data == []) then
          some (.inl (IntKind.wrap .i64 (x7 + 1)))
        else
          some (.inr false)
  else
    Option.map (fun o => .inr o) (J4P)
theorem J9t {x6 : Vector Je 16} {b0 : J9} {x7 : Int} {o : ((Int) ⊕ (Bool))} (h : JX x6 b0 x7 = some o) :
    rk (J5 p) J1H 0 [.lo 1 [1, 6, 7] J0d, .bl 0, .td 1 [2], .sq (.keep [] J30)] (X (J5 p) J0d ⟨[(1, .ptr 0 0), (6, .data ((JM Jf) x6)), (7, .p (.i .i64 x7))], [.box (List.map AV.p (Ja b0))]⟩) = (Jer p x6 b0) o := by
  unfold JX at h
  rcases Jg h with ⟨h1, h⟩ | ⟨h1, h⟩
  · obtain ⟨y2, h3, h⟩ := bi h
    have f4 : (0 ≤ (x7 : Int) ∧ (x7 : Int) < ((16 : Nat) : Int)) = True := eq_true (J56 h3).1
    have f5 : sub (JM Jf x6) (Int.toNat x7 * 2) 2 = some (Jf y2) := J9F J07 (J56 h3).2
    try simp only [Nf] at f5
    try simp only [↓Da, Ua, J0d, J2, J0, J1, *, ↓reduceIte, Nat.reduceEqDiff, Nat.reduceAdd, Nat.reduceLT, Nat.reduceMul]
    rcases Jg h with ⟨h6, h⟩ | ⟨h6, h⟩
    · obtain rfl := sj h
      try simp only [↓Da, Ua, J0d, J2, J0, J1, J7p, *, ↓reduceIte, Nat.reduceEqDiff, Nat.reduceAdd, Nat.reduceLT, Nat.reduceMul]
      rfl
    · try simp only [↓Da, Ua, J0d, J2, J0, J1, *, ↓reduceIte, Nat.reduceEqDiff, Nat.reduceAdd, Nat.reduceLT, Nat.reduceMul]
      rcases Jg h with ⟨h7, h⟩ | ⟨h7, h⟩
      · try simp only [↓Da, Ua, J0d, J2, J0, J1, *, ↓reduceIte, Nat.reduceEqDiff, Nat.reduceAdd, Nat.reduceLT, Nat.reduceMul]
        rcases Jg h with ⟨h8, h⟩ | ⟨h8, h⟩
        · have h8n : ((b0.LSN : Int) != 0) = false := by rw [bne, h8]; rfl
          obtain rfl := sj h
          try simp only [↓Da, Ua, J0d, J2, J0, J1, J7p, *, ↓reduceIte, Nat.reduceEqDiff, Nat.reduceAdd, Nat.reduceLT, Nat.reduceMul]
          rfl
        · have h8n : ((b0.LSN : Int) != 0) = true := by rw [bne, h8]; rfl
          obtain rfl := sj h
          try simp only [↓Da, Ua, J0d, J2, J0, J1, *, ↓reduceIte, Nat.reduceEqDiff, Nat.reduceAdd, Nat.reduceLT, Nat.reduceMul]
          rfl
      · try simp only [↓Da, Ua, J0d, J2, J0, J1, *, ↓reduceIte, Nat.reduceEqDiff, Nat.reduceAdd, Nat.reduceLT, Nat.reduceMul]
        rcases Jg h with ⟨h9, h⟩ | ⟨h9, h⟩
        · obtain rfl := sj h
          try simp only [↓Da, Ua, J0d, J2, J0, J1, *, ↓reduceIte, Nat.reduceEqDiff, Nat.reduceAdd, Nat.reduceLT, Nat.reduceMul]
          rfl
        · obtain rfl := sj h
          try simp only [↓Da, Ua, J0d, J2, J0, J1, J7p, *, ↓reduceIte, Nat.reduceEqDiff, Nat.reduceAdd, Nat.reduceLT, Nat.reduceMul]
          rfl
  · obtain ⟨o', h', rfl⟩ := mi h
    try simp only [↓Da, Ua, J0d, J2, J0, J1, *, ↓reduceIte, Nat.reduceEqDiff, Nat.reduceAdd, Nat.reduceLT, Nat.reduceMul]
    have e0 := Jen p (B0 := (Ja b0)) h'
    first | exact e0 | (simp only [*] at e0; exact e0)
def J9L (x6 : Vector Je 16) (b0 : J9) (s : Int) : Option (Bool) :=
  J03 (fun s => JX x6 b0 s) s
theorem Jd4 {x6 : Vector Je 16} {b0 : J9} {s : Int} {o : Bool} (h : J9L x6 b0 s = some o) :
    rk (J5 p) J1H 0 [.bl 0, .td 1 [2], .sq (.keep [] J30)] (X (J5 p) (.lp 1 [1, 6, 7] J0d) ⟨[(1, .ptr 0 0), (6, .data ((JM Jf) x6)), (7, .p (.i .i64 s))], [.box (List.map AV.p (Ja b0))]⟩) = J4Z o := by
  have h0 : J03 (fun s => JX x6 b0 s) s = some o := h
  exact J3a (P := fun (s : Int) (o : Bool) => rk (J5 p) J1H 0 [.bl 0, .td 1 [2], .sq (.keep [] J30)] (X (J5 p) (.lp 1 [1, 6, 7] J0d) ⟨[(1, .ptr 0 0), (6, .data ((JM Jf) x6)), (7, .p (.i .i64 s))], [.box (List.map AV.p (Ja b0))]⟩) = J4Z o) (fun s r hs => by rw [J2L]; exact J9t p hs) (fun s s1 r hs ih => by rw [J2L]; exact (J9t p hs).trans ih) h0
def J2u (x0 : J9) : Option (Bool) :=
  J9L x0.Cells x0 0
theorem Jde {x0 : J9} {o : Bool} (h : J2u x0 = some o) :
    rk (J5 p) J1H 0 [] (X (J5 p) J69 ⟨[(0, .data (Ja x0))], []⟩) = J4Z o := by
  unfold J2u at h
  try simp only [↓Da, Ua, J69, J2, J0, J1, ↓reduceIte, Nat.reduceEqDiff, Nat.reduceAdd, Nat.reduceLT, Nat.reduceMul]
  have e0 := Jd4 p h
  first | exact e0 | (simp only [*] at e0; exact e0)
theorem Jh7 {x0 : J9} {o : Bool} (h : J2u x0 = some o) : AF (J5 p) J3V [.data (Ja x0)] [] = J4Z o :=
  (J1e (J5 p) (Jhv p) rfl).trans (Jde p h)
theorem JbA {x0 : J9} {o : Bool} (h : J2u x0 = some o) : ∀ ws new st, (Jr (AF (J5 p)) J3V ([.data (Ja x0)], ws) 0 new).run st = some ⟨.p (.b o), ws⟩ := JD rfl (Jh7 p h) rfl
def J8M (r : List UInt8) : Option Res := some (.p (.s r), [])
def J2V (x0 : List UInt8) (x1 : Int) : Option (List UInt8) := JeN x0 x1
theorem JcZ {x0 : List UInt8} {x1 : Int} {o : List UInt8} (h : J2V x0 x1 = some o) : AF (J5 p) J1I [.p (.s x0), .p (.i .i64 x1)] [] = J8M o := by
  rw [JbT (Jda p)]
  have h' : JeN x0 x1 = some o := h
  simp only [Jhz, h', Option.map_some, J8M]
theorem J8G {x0 : List UInt8} {x1 : Int} {o : List UInt8} (h : J2V x0 x1 = some o) : ∀ ws new st, (Jr (AF (J5 p)) J1I ([.p (.s x0), .p (.i .i64 x1)], ws) 0 new).run st = some ⟨.p (.s o), ws⟩ := JD rfl (JcZ p h) rfl
def J9w (b0 : Int) (r : Bool) : Option Res := some (.p (.b r), [.box [.p (.i .i64 b0)]])
def J4T (x0 : T_api_Frame) (b0 : Int) : Option (Bool) :=
  some ((x0.Page.ID : Int) == b0)
theorem JbD {x0 : T_api_Frame} {b0 : Int} {o : Bool} (h : J4T x0 b0 = some o) :
    rk (J5 p) J3K 1 [] (X (J5 p) J4N ⟨[(0, .data (J3 x0)), (1, .ptr 0 0)], [.box [.p (.i .i64 b0)]]⟩) = (J9w b0) o := by
  unfold J4T at h
  have f1 : sub (J3 x0) 0 1 = some ((r_i .i64) x0.Page.ID) := by
    have e0 := (J4e (J0K x0) (J4r x0.Page))
    exact e0
  try simp only [Nf] at f1
  obtain rfl := sj h
  try simp only [↓Da, Ua, J4N, J2, J0, J1, J4, Jf0, *, ↓reduceIte, Nat.reduceEqDiff, Nat.reduceAdd, Nat.reduceLT, Nat.reduceMul]
  rfl
theorem Jeh {x0 : T_api_Frame} {b0 : Int} {o : Bool} (h : J4T x0 b0 = some o) : AF (J5 p) J0C [.data (J3 x0), .ptr 0 0] [.box [.p (.i .i64 b0)]] = (J9w b0) o :=
  (J1e (J5 p) (Jex p) rfl).trans (JbD p h)
def JA (b0 : Int) (r : Int) : Option Res := some (.p (.i .i64 r), [.box [.p (.i .i64 b0)]])
def J39 (x0 : List T_api_Frame) (x7 : Int) (b0 : Int) (o : (Int) ⊕ (Int)) : Option Res := match o with
  | .inl s => rk (J5 p) Jq 1 [.bl 0, .sq (.keep [] JG)] (X (J5 p) (.lp 1 [0, 1, 7, 8] Jv) ⟨[(0, .p (.sl 37 (List.map J3 x0))), (1, .fn J0C [] [.ptr 0 0]), (7, .p (.i .i64 x7)), (8, .p (.i .i64 s))], [.box [.p (.i .i64 b0)]]⟩)
  | .inr o => (JA b0) o
def JT (b0 : Int) : Option (Int) :=
  some (-1)
theorem J37 {b0 : Int} {o : Int} (h : JT b0 = some o) :
    rk (J5 p) Jq 1 [] (X (J5 p) JG ⟨[], [.box [.p (.i .i64 b0)]]⟩) = (JA b0) o := by
  unfold JT at h
  obtain rfl := sj h
  try simp only [↓Da, Ua, JG, J2O, ↓reduceIte, Nat.reduceEqDiff, Nat.reduceAdd, Nat.reduceLT, Nat.reduceMul]
  rfl
def Jx (x0 : List T_api_Frame) (x7 : Int) (b0 : Int) (x8 : Int) : Option (((Int) ⊕ (Int))) :=
  if (decide (x8 < x7)) then
    Option.bind (idx x0 x8) fun y2 =>
    Option.bind (J4T y2 b0) fun r5 =>
    if r5 then
      some (.inr x8)
    else
      some (.inl (IntKind.wrap .i64 (x8 + 1)))
  else
    Option.map (fun o => .inr o) (JT b0)
theorem J1i {x0 : List T_api_Frame} {x7 : Int} {b0 : Int} {x8 : Int} {o : ((Int) ⊕ (Int))} (h : Jx x0 x7 b0 x8 = some o) :
    rk (J5 p) Jq 1 [.lo 1 [0, 1, 7, 8] Jv, .bl 0, .sq (.keep [] JG)] (X (J5 p) Jv ⟨[(0, .p (.sl 37 (List.map J3 x0))), (1, .fn J0C [] [.ptr 0 0]), (7, .p (.i .i64 x7)), (8, .p (.i .i64 x8))], [.box [.p (.i .i64 b0)]]⟩) = (J39 p x0 x7 b0) o := by
  unfold Jx at h
  rcases Jg h with ⟨h1, h⟩ | ⟨h1, h⟩
  · obtain ⟨y2, h3, h⟩ := bi h
    have f4 := J3b (r := J3) h3
    try simp only [Nf] at f4
    obtain ⟨r5, h6, h⟩ := bi h
    have f7 : ∀ ws new s, J2Q ws s [0] [[.p (.i .i64 b0)]] → (Jr (AF (J5 p)) J0C ([.data (J3 y2), .ptr 0 0], ws) 0 new).run s = some ⟨.p (.b r5), ws ++ [(0, .box ([.p (.i .i64 b0)]))]⟩ := J3F (args' := [.data (J3 y2), .ptr 0 0]) (bs := [0]) (css := [[.p (.i .i64 b0)]]) (css' := [[.p (.i .i64 b0)]]) rfl rfl rfl (by simp [J0J, JV]) (Jeh p h6) rfl rfl (by simp [J0J, JV])
    try simp only [Nf] at f7
    try simp only [↓Da, Ua, Jv, J2, J0, J1, J4, *, ↓reduceIte, Nat.reduceEqDiff, Nat.reduceAdd, Nat.reduceLT, Nat.reduceMul]
    rcases Jg h with ⟨h8, h⟩ | ⟨h8, h⟩
    · obtain rfl := sj h
      try simp only [↓Da, Ua, Jv, J2, J0, J1, J4, J2O, *, ↓reduceIte, Nat.reduceEqDiff, Nat.reduceAdd, Nat.reduceLT, Nat.reduceMul]
      rfl
    · obtain rfl := sj h
      try simp only [↓Da, Ua, Jv, J2, J0, J1, J4, *, ↓reduceIte, Nat.reduceEqDiff, Nat.reduceAdd, Nat.reduceLT, Nat.reduceMul]
      rfl
  · obtain ⟨o', h', rfl⟩ := mi h
    try simp only [↓Da, Ua, Jv, J2, J0, J1, J4, *, ↓reduceIte, Nat.reduceEqDiff, Nat.reduceAdd, Nat.reduceLT, Nat.reduceMul]
    have e0 := J37 p h'
    first | exact e0 | (simp only [*] at e0; exact e0)
def J1h (x0 : List T_api_Frame) (x7 : Int) (b0 : Int) (s : Int) : Option (Int) :=
  J03 (fun s => Jx x0 x7 b0 s) s
theorem J2R {x0 : List T_api_Frame} {x7 : Int} {b0 : Int} {s : Int} {o : Int} (h : J1h x0 x7 b0 s = some o) :
    rk (J5 p) Jq 1 [.bl 0, .sq (.keep [] JG)] (X (J5 p) (.lp 1 [0, 1, 7, 8] Jv) ⟨[(0, .p (.sl 37 (List.map J3 x0))), (1, .fn J0C [] [.ptr 0 0]), (7, .p (.i .i64 x7)), (8, .p (.i .i64 s))], [.box [.p (.i .i64 b0)]]⟩) = (JA b0) o := by
  have h0 : J03 (fun s => Jx x0 x7 b0 s) s = some o := h
  exact J3a (P := fun (s : Int) (o : Int) => rk (J5 p) Jq 1 [.bl 0, .sq (.keep [] JG)] (X (J5 p) (.lp 1 [0, 1, 7, 8] Jv) ⟨[(0, .p (.sl 37 (List.map J3 x0))), (1, .fn J0C [] [.ptr 0 0]), (7, .p (.i .i64 x7)), (8, .p (.i .i64 s))], [.box [.p (.i .i64 b0)]]⟩) = (JA b0) o) (fun s r hs => by rw [J2L]; exact J1i p hs) (fun s s1 r hs ih => by rw [J2L]; exact (J1i p hs).trans ih) h0
def JI (x0 : List T_api_Frame) (b0 : Int) : Option (Int) :=
  J1h x0 ((List.length x0 : Nat) : Int) b0 0
theorem J2S {x0 : List T_api_Frame} {b0 : Int} {o : Int} (h : JI x0 b0 = some o) :
    rk (J5 p) Jq 1 [] (X (J5 p) J0l ⟨[(0, .p (.sl 37 (List.map J3 x0))), (1, .fn J0C [] [.ptr 0 0])], [.box [.p (.i .i64 b0)]]⟩) = (JA b0) o := by
  unfold JI at h
  try simp only [↓Da, Ua, J0l, J2, J0, J1, J4, ↓reduceIte, Nat.reduceEqDiff, Nat.reduceAdd, Nat.reduceLT, Nat.reduceMul]
  have e0 := J2R p h
  first | exact e0 | (simp only [*] at e0; exact e0)
theorem J3i {x0 : List T_api_Frame} {b0 : Int} {o : Int} (h : JI x0 b0 = some o) : AF (J5 p) JY [.p (.sl 37 (List.map J3 x0)), .fn J0C [] [.ptr 0 0]] [.box [.p (.i .i64 b0)]] = (JA b0) o :=
  (J1e (J5 p) (J5H p) rfl).trans (J2S p h)
def JcH  (r : Int) : Option Res := some (.p (.i .i64 r), [])
def J10 (x0 : T_api_Pool) (x1 : Int) : Option (Int) :=
  Option.bind (JI x0.Frames x1) fun r1 =>
  some r1
theorem Je8 {x0 : T_api_Pool} {x1 : Int} {o : Int} (h : J10 x0 x1 = some o) :
    rk (J5 p) J5s 0 [] (X (J5 p) J6T ⟨[(0, .data (J6 x0)), (1, .p (.i .i64 x1))], []⟩) = JcH o := by
  unfold J10 at h
  obtain ⟨r1, h2, h⟩ := bi h
  have f3 : ∀ ws new s, J2Q ws s [1] [[.p (.i .i64 x1)]] → (Jr (AF (J5 p)) JY ([.p (.sl 37 (List.map J3 x0.Frames)), .fn J0C [] [.ptr 1 0]], ws) 0 new).run s = some ⟨.p (.i .i64 r1), ws ++ [(1, .box ([.p (.i .i64 x1)]))]⟩ := J3F (args' := [.p (.sl 37 (List.map J3 x0.Frames)), .fn J0C [] [.ptr 0 0]]) (bs := [1]) (css := [[.p (.i .i64 x1)]]) (css' := [[.p (.i .i64 x1)]]) rfl rfl rfl (by simp [J0J, JV]) (J3i p h2) rfl rfl (by simp [J0J, JV])
  try simp only [Nf] at f3
  obtain rfl := sj h
  try simp only [↓Da, Ua, J6T, J2, J0, J1, J8, J4, Ji9, *, ↓reduceIte, Nat.reduceEqDiff, Nat.reduceAdd, Nat.reduceLT, Nat.reduceMul]
  rfl
theorem JhK {x0 : T_api_Pool} {x1 : Int} {o : Int} (h : J10 x0 x1 = some o) : AF (J5 p) J22 [.data (J6 x0), .p (.i .i64 x1)] [] = JcH o :=
  (J1e (J5 p) (Ji8 p) rfl).trans (Je8 p h)
theorem J5w {x0 : T_api_Pool} {x1 : Int} {o : Int} (h : J10 x0 x1 = some o) : ∀ ws new st, (Jr (AF (J5 p)) J22 ([.data (J6 x0), .p (.i .i64 x1)], ws) 0 new).run st = some ⟨.p (.i .i64 o), ws⟩ := JD rfl (JhK p h) rfl
def J3E  (r : (List T_api_Frame)) : Option Res := some (.p (.slc 37 (List.map J3 r)), [])
def J0j (x0 : List T_api_Frame) : Option ((List T_api_Frame)) :=
  some x0
theorem J5W {x0 : List T_api_Frame} {o : (List T_api_Frame)} (h : J0j x0 = some o) :
    rk (J5 p) J0h 0 [] (X (J5 p) J0L ⟨[(0, .p (.sl 37 (List.map J3 x0)))], []⟩) = J3E o := by
  unfold J0j at h
  have f1 : ∀ env sto, (slR (.sl 37) (.p (.sl 37 (List.map J3 x0))) none (some (.p (.i .i64 ((List.length x0 : Nat) : Int)))) (some (.p (.i .i64 ((List.length x0 : Nat) : Int))))).run ⟨env, sto⟩ = some ⟨.p (.slc 37 (List.map J3 x0)), []⟩ := fun env sto => Jnw J3 _ env sto
  try simp only [Nf] at f1
  obtain rfl := sj h
  try simp only [↓Da, Ua, J0L, J2, J0, J1, J4, J6M, *, ↓reduceIte, Nat.reduceEqDiff, Nat.reduceAdd, Nat.reduceLT, Nat.reduceMul]
  rfl
theorem J6S {x0 : List T_api_Frame} {o : (List T_api_Frame)} (h : J0j x0 = some o) : AF (J5 p) JZ [.p (.sl 37 (List.map J3 x0))] [] = J3E o :=
  (J1e (J5 p) (J6J p) rfl).trans (J5W p h)
theorem J6L {x0 : List T_api_Frame} {o : (List T_api_Frame)} (h : J0j x0 = some o) : ∀ ws new st, (Jr (AF (J5 p)) JZ ([.p (.sl 37 (List.map J3 x0))], ws) 0 new).run st = some ⟨.p (.slc 37 (List.map J3 o)), ws⟩ := JD rfl (J6S p h) rfl
def J02 (x0 : List T_api_Dirty) : Option (List T_api_Dirty) := J6s (fun x : T_api_Dirty => x.Page) x0
theorem J5U {x0 : List T_api_Dirty} {o : List T_api_Dirty} (h : J02 x0 = some o) : AF (J5 p) J0p [.slr 0 0 (List.length x0), .fn 166 [] []] [.arr true 3 (List.map Jc x0)] = some (.tup [], [.arr true 3 (List.map Jc o)]) := by
  rw [JbT (J5V p)]
  have h' : J6s (fun x : T_api_Dirty => x.Page) x0 = some o := h
  exact JkW (dec := J5o) (r := Jc) (fun _ => rfl) h'
theorem J5q {x0 : List T_api_Dirty} {o : List T_api_Dirty} (h : J02 x0 = some o) : List.length o = List.length x0 := by
  have h' : J6s (fun x : T_api_Dirty => x.Page) x0 = some o := h
  exact Jkj h'
def J11 (x0 : List T_api_Frame) (x1 x2 : Int) : Option (List T_api_Frame) := JcN x0 x1 x2
theorem J6o {x0 : List T_api_Frame} {x1 x2 : Int} {o : List T_api_Frame} (h : J11 x0 x1 x2 = some o) : AF (J5 p) J0B [.slr 0 0 (List.length x0), .p (.i .i64 x1), .p (.i .i64 x2)] [.arr true 37 (List.map J3 x0)] = some (.p (.sl 37 (List.map J3 o)), [.arr false 37 (List.map J3 (o ++ List.replicate (List.length x0 - List.length o) (⟨(⟨0, 0, (Vector.replicate 16 (⟨false, []⟩ : Je))⟩ : J9), false, 0, false⟩ : T_api_Frame)))]) := by
  rw [JbT (J6h p)]
  exact JmK J3 (⟨(⟨0, 0, (Vector.replicate 16 (⟨false, []⟩ : Je))⟩ : J9), false, 0, false⟩ : T_api_Frame) h
def JS (x0 : List T_api_Frame) : Option (List T_api_Frame) := if (2 * x0.length + 512) * 424 ≤ 281474976710656 then some x0 else none
theorem J1R {x0 : List T_api_Frame} {o : List T_api_Frame} (h : JS x0 = some o) : AF (J5 p) Jz [.p (.sl 37 (List.map J3 x0))] [] = some (.slr 0 0 o.length, [.arr true 37 (List.map J3 o)]) := by
  unfold JS at h
  split at h
  · rename_i h2
    injection h with h; subst h
    rw [JnS _ (J6A p)]
    cases x0 with
    | nil => simp [J0H, J8n, J9Q, J7s.af]
    | cons a r =>
      simp at h2
      simp [J0H, J8n, J9Q, J7s.af, h2]
  · cases h
def J90  (r : Bool) : Option Res := some (.p (.b r), [])
def J2s (x0 : J9) : Option (Bool) :=
  if (decide (x0.ID ≥ 0)) then
    if (decide (x0.ID < 64)) then
      if (decide (x0.LSN ≥ 0)) then
        some (decide (x0.LSN ≤ 1099511627776))
      else
        some false
    else
      some false
  else
    some false
theorem JaT {x0 : J9} {o : Bool} (h : J2s x0 = some o) :
    rk (J5 p) J3d 0 [] (X (J5 p) J1g ⟨[(0, .data (Ja x0))], []⟩) = J90 o := by
  unfold J2s at h
  rcases Jg h with ⟨h1, h⟩ | ⟨h1, h⟩
  · try simp only [↓Da, Ua, J1g, J2, J0, J1, *, ↓reduceIte, Nat.reduceEqDiff, Nat.reduceAdd, Nat.reduceLT, Nat.reduceMul]
    rcases Jg h with ⟨h2, h⟩ | ⟨h2, h⟩
    · try simp only [↓Da, Ua, J1g, J2, J0, J1, *, ↓reduceIte, Nat.reduceEqDiff, Nat.reduceAdd, Nat.reduceLT, Nat.reduceMul]
      rcases Jg h with ⟨h3, h⟩ | ⟨h3, h⟩
      · obtain rfl := sj h
        try simp only [↓Da, Ua, J1g, J2, J0, J1, J5O, *, ↓reduceIte, Nat.reduceEqDiff, Nat.reduceAdd, Nat.reduceLT, Nat.reduceMul]
        rfl
      · obtain rfl := sj h
        try simp only [↓Da, Ua, J1g, J2, J0, J1, J5O, *, ↓reduceIte, Nat.reduceEqDiff, Nat.reduceAdd, Nat.reduceLT, Nat.reduceMul]
        rfl
    · obtain rfl := sj h
      try simp only [↓Da, Ua, J1g, J2, J0, J1, J5O, *, ↓reduceIte, Nat.reduceEqDiff, Nat.reduceAdd, Nat.reduceLT, Nat.reduceMul]
      rfl
  · obtain rfl := sj h
    try simp only [↓Da, Ua, J1g, J2, J0, J1, J5O, *, ↓reduceIte, Nat.reduceEqDiff, Nat.reduceAdd, Nat.reduceLT, Nat.reduceMul]
    rfl
theorem JdX {x0 : J9} {o : Bool} (h : J2s x0 = some o) : AF (J5 p) J3f [.data (Ja x0)] [] = J90 o :=
  (J1e (J5 p) (JdK p) rfl).trans (JaT p h)
theorem Jds {x0 : J9} {o : Bool} (h : J2s x0 = some o) : ∀ ws new st, (Jr (AF (J5 p)) J3f ([.data (Ja x0)], ws) 0 new).run st = some ⟨.p (.b o), ws⟩ := JD rfl (JdX p h) rfl
def JaX  (r : Bool) : Option Res := some (.p (.b r), [])
def J38 (x0 : Int) : Option (Bool) :=
  if (decide (x0 ≥ 0)) then
    some (decide (x0 < 64))
  else
    some false
theorem JcR {x0 : Int} {o : Bool} (h : J38 x0 = some o) :
    rk (J5 p) J4X 0 [] (X (J5 p) J4R ⟨[(0, .p (.i .i64 x0))], []⟩) = JaX o := by
  unfold J38 at h
  rcases Jg h with ⟨h1, h⟩ | ⟨h1, h⟩
  · obtain rfl := sj h
    try simp only [↓Da, Ua, J4R, Jbo, *, ↓reduceIte, Nat.reduceEqDiff, Nat.reduceAdd, Nat.reduceLT, Nat.reduceMul]
    rfl
  · obtain rfl := sj h
    try simp only [↓Da, Ua, J4R, Jbo, *, ↓reduceIte, Nat.reduceEqDiff, Nat.reduceAdd, Nat.reduceLT, Nat.reduceMul]
    rfl
theorem Jh1 {x0 : Int} {o : Bool} (h : J38 x0 = some o) : AF (J5 p) J4K [.p (.i .i64 x0)] [] = JaX o :=
  (J1e (J5 p) (JgS p) rfl).trans (JcR p h)
theorem JgH {x0 : Int} {o : Bool} (h : J38 x0 = some o) : ∀ ws new st, (Jr (AF (J5 p)) J4K ([.p (.i .i64 x0)], ws) 0 new).run st = some ⟨.p (.b o), ws⟩ := JD rfl (Jh1 p h) rfl
def J2e  (r : (Vector Int 16)) : Option Res := some (.data ((JM (r_i .u32)) r), [])
def J1K (b0 : Vector Int 16) (o : (Int × (Vector Int 16)) ⊕ ((Vector Int 16))) : Option Res := match o with
  | .inl s => rk (J5 p) JF 0 [.bl 0, .sq (.keep [0, 1] JR)] (X (J5 p) (.lp 2 [0, 1, 4] JO) ⟨[(0, .ptr 0 0), (1, .ptr 1 0), (4, .p (.i .i64 s.1))], [.box (List.map AV.p ((JM (r_i .u32)) b0)), .box (List.map AV.p ((JM (r_i .u32)) s.2))]⟩)
  | .inr o => J2e o
def J9S (x2 : Int) (x4 : Int) (b0 : Vector Int 16) (b1 : Vector Int 16) (o : (Int × Int) ⊕ (((Int × (Vector Int 16)) ⊕ ((Vector Int 16))))) : Option Res := match o with
  | .inl s => rk (J5 p) JF 0 [.bl 2, .sq (.keep [0, 1, 2, 3, 4] J1j), .bl 1, .sq (.keep [0, 1, 4] J0S), .lo 2 [0, 1, 4] JO, .bl 0, .sq (.keep [0, 1] JR)] (X (J5 p) (.lp 2 [0, 1, 2, 3, 4, 9] J0w) ⟨[(0, .ptr 0 0), (1, .ptr 1 0), (2, .p (.i .i64 x2)), (3, .p (.i .u32 s.1)), (4, .p (.i .i64 x4)), (9, .p (.i .i64 s.2))], [.box (List.map AV.p ((JM (r_i .u32)) b0)), .box (List.map AV.p ((JM (r_i .u32)) b1))]⟩)
  | .inr o => (J1K p b0) o
def J2m (x4 : Int) (b0 : Vector Int 16) (b1 : Vector Int 16) : Option (((Int × (Vector Int 16)) ⊕ ((Vector Int 16)))) :=
  some (.inl ((IntKind.wrap .i64 (x4 + 1)), b1))
theorem J9W {x4 : Int} {b0 : Vector Int 16} {b1 : Vector Int 16} {o : ((Int × (Vector Int 16)) ⊕ ((Vector Int 16)))} (h : J2m x4 b0 b1 = some o) :
    rk (J5 p) JF 0 [.lo 2 [0, 1, 4] JO, .bl 0, .sq (.keep [0, 1] JR)] (X (J5 p) J0S ⟨[(0, .ptr 0 0), (1, .ptr 1 0), (4, .p (.i .i64 x4))], [.box (List.map AV.p ((JM (r_i .u32)) b0)), .box (List.map AV.p ((JM (r_i .u32)) b1))]⟩) = (J1K p b0) o := by
  unfold J2m at h
  obtain rfl := sj h
  try simp only [↓Da, Ua, J0S, ↓reduceIte, Nat.reduceEqDiff, Nat.reduceAdd, Nat.reduceLT, Nat.reduceMul]
  rfl
def J2q (x2 : Int) (x3 : Int) (x4 : Int) (b0 : Vector Int 16) (b1 : Vector Int 16) : Option (((Int × (Vector Int 16)) ⊕ ((Vector Int 16)))) :=
  Option.bind (inb 16 x2) fun u1 =>
  Option.bind (J7G b1 x2) fun y4 =>
  J2m x4 b0 (JeY b1 x2 x3)
theorem Jag {x2 : Int} {x3 : Int} {x4 : Int} {b0 : Vector Int 16} {b1 : Vector Int 16} {o : ((Int × (Vector Int 16)) ⊕ ((Vector Int 16)))} (h : J2q x2 x3 x4 b0 b1 = some o) :
    rk (J5 p) JF 0 [.bl 1, .sq (.keep [0, 1, 4] J0S), .lo 2 [0, 1, 4] JO, .bl 0, .sq (.keep [0, 1] JR)] (X (J5 p) J1j ⟨[(0, .ptr 0 0), (1, .ptr 1 0), (2, .p (.i .i64 x2)), (3, .p (.i .u32 x3)), (4, .p (.i .i64 x4))], [.box (List.map AV.p ((JM (r_i .u32)) b0)), .box (List.map AV.p ((JM (r_i .u32)) b1))]⟩) = (J1K p b0) o := by
  unfold J2q at h
  obtain ⟨u1, h2, h⟩ := bi h
  have f3 : (0 ≤ (x2 : Int) ∧ (x2 : Int) < ((16 : Nat) : Int)) = True := eq_true (JbK h2)
  obtain ⟨y4, h5, h⟩ := bi h
  have f6 : spl ((JM (r_i .u32)) b1) (Int.toNat x2 * 1) ((r_i .u32) x3) = some ((JM (r_i .u32)) (JeY b1 x2 x3)) := by
    have e0 := (Jom (v := b1) (J7H .u32) (Jne h5) x3)
    exact e0
  try simp only [Nf] at f6
  try simp only [↓Da, Ua, J1j, *, ↓reduceIte, Nat.reduceEqDiff, Nat.reduceAdd, Nat.reduceLT, Nat.reduceMul]
  have e0 := J9W p h
  first | exact e0 | (simp only [*] at e0; exact e0)
def J0b (x2 : Int) (x4 : Int) (b0 : Vector Int 16) (b1 : Vector Int 16) (x3 : Int) (x9 : Int) : Option (((Int × Int) ⊕ (((Int × (Vector Int 16)) ⊕ ((Vector Int 16)))))) :=
  if (decide (x9 < 4)) then
    if (((J3B .u32 x3 1) : Int) == 1) then
      Option.bind (J9i .u32 x3 1) fun q3 =>
      some (.inl ((J4V .u32 q3 2197175160), (IntKind.wrap .i64 (x9 + 1))))
    else
      Option.bind (J9i .u32 x3 1) fun q5 =>
      some (.inl (q5, (IntKind.wrap .i64 (x9 + 1))))
  else
    Option.map (fun o => .inr o) (J2q x2 x3 x4 b0 b1)
theorem J7x {x2 : Int} {x4 : Int} {b0 : Vector Int 16} {b1 : Vector Int 16} {x3 : Int} {x9 : Int} {o : ((Int × Int) ⊕ (((Int × (Vector Int 16)) ⊕ ((Vector Int 16)))))} (h : J0b x2 x4 b0 b1 x3 x9 = some o) :
    rk (J5 p) JF 0 [.lo 2 [0, 1, 2, 3, 4, 9] J0w, .bl 2, .sq (.keep [0, 1, 2, 3, 4] J1j), .bl 1, .sq (.keep [0, 1, 4] J0S), .lo 2 [0, 1, 4] JO, .bl 0, .sq (.keep [0, 1] JR)] (X (J5 p) J0w ⟨[(0, .ptr 0 0), (1, .ptr 1 0), (2, .p (.i .i64 x2)), (3, .p (.i .u32 x3)), (4, .p (.i .i64 x4)), (9, .p (.i .i64 x9))], [.box (List.map AV.p ((JM (r_i .u32)) b0)), .box (List.map AV.p ((JM (r_i .u32)) b1))]⟩) = (J9S p x2 x4 b0 b1) o := by
  unfold J0b at h
  rcases Jg h with ⟨h1, h⟩ | ⟨h1, h⟩
  · try simp only [↓Da, Ua, J0w, *, ↓reduceIte, Nat.reduceEqDiff, Nat.reduceAdd, Nat.reduceLT, Nat.reduceMul]
    rcases Jg h with ⟨h2, h⟩ | ⟨h2, h⟩
    · have h2n : (((J3B .u32 x3 1) : Int) != 1) = false := by rw [bne, h2]; rfl
      obtain ⟨q3, h4, h⟩ := bi h
      obtain rfl := sj h
      try simp only [↓Da, Ua, J0w, *, ↓reduceIte, Nat.reduceEqDiff, Nat.reduceAdd, Nat.reduceLT, Nat.reduceMul]
      rfl
    · have h2n : (((J3B .u32 x3 1) : Int) != 1) = true := by rw [bne, h2]; rfl
      obtain ⟨q5, h6, h⟩ := bi h
      obtain rfl := sj h
      try simp only [↓Da, Ua, J0w, *, ↓reduceIte, Nat.reduceEqDiff, Nat.reduceAdd, Nat.reduceLT, Nat.reduceMul]
      rfl
  · obtain ⟨o', h', rfl⟩ := mi h
    try simp only [↓Da, Ua, J0w, *, ↓reduceIte, Nat.reduceEqDiff, Nat.reduceAdd, Nat.reduceLT, Nat.reduceMul]
    have e0 := Jag p h'
    first | exact e0 | (simp only [*] at e0; exact e0)
def J5c (x2 : Int) (x4 : Int) (b0 : Vector Int 16) (b1 : Vector Int 16) (s : Int × Int) : Option (((Int × (Vector Int 16)) ⊕ ((Vector Int 16)))) :=
  J03 (fun s => J0b x2 x4 b0 b1 s.1 s.2) s
theorem J9l {x2 : Int} {x4 : Int} {b0 : Vector Int 16} {b1 : Vector Int 16} {s : Int × Int} {o : ((Int × (Vector Int 16)) ⊕ ((Vector Int 16)))} (h : J5c x2 x4 b0 b1 s = some o) :
    rk (J5 p) JF 0 [.bl 2, .sq (.keep [0, 1, 2, 3, 4] J1j), .bl 1, .sq (.keep [0, 1, 4] J0S), .lo 2 [0, 1, 4] JO, .bl 0, .sq (.keep [0, 1] JR)] (X (J5 p) (.lp 2 [0, 1, 2, 3, 4, 9] J0w) ⟨[(0, .ptr 0 0), (1, .ptr 1 0), (2, .p (.i .i64 x2)), (3, .p (.i .u32 s.1)), (4, .p (.i .i64 x4)), (9, .p (.i .i64 s.2))], [.box (List.map AV.p ((JM (r_i .u32)) b0)), .box (List.map AV.p ((JM (r_i .u32)) b1))]⟩) = (J1K p b0) o := by
  have h0 : J03 (fun s => J0b x2 x4 b0 b1 s.1 s.2) s = some o := h
  exact J3a (P := fun (s : Int × Int) (o : ((Int × (Vector Int 16)) ⊕ ((Vector Int 16)))) => rk (J5 p) JF 0 [.bl 2, .sq (.keep [0, 1, 2, 3, 4] J1j), .bl 1, .sq (.keep [0, 1, 4] J0S), .lo 2 [0, 1, 4] JO, .bl 0, .sq (.keep [0, 1] JR)] (X (J5 p) (.lp 2 [0, 1, 2, 3, 4, 9] J0w) ⟨[(0, .ptr 0 0), (1, .ptr 1 0), (2, .p (.i .i64 x2)), (3, .p (.i .u32 s.1)), (4, .p (.i .i64 x4)), (9, .p (.i .i64 s.2))], [.box (List.map AV.p ((JM (r_i .u32)) b0)), .box (List.map AV.p ((JM (r_i .u32)) b1))]⟩) = (J1K p b0) o) (fun s r hs => by rw [J2L]; exact J7x p hs) (fun s s1 r hs ih => by rw [J2L]; exact (J7x p hs).trans ih) h0
def J2j (b0 : Vector Int 16) (b1 : Vector Int 16) : Option ((Vector Int 16)) :=
  some b1
theorem Jac {b0 : Vector Int 16} {b1 : Vector Int 16} {o : (Vector Int 16)} (h : J2j b0 b1 = some o) :
    rk (J5 p) JF 0 [] (X (J5 p) JR ⟨[(0, .ptr 0 0), (1, .ptr 1 0)], [.box (List.map AV.p ((JM (r_i .u32)) b0)), .box (List.map AV.p ((JM (r_i .u32)) b1))]⟩) = J2e o := by
  unfold J2j at h
  obtain rfl := sj h
  try simp only [↓Da, Ua, JR, J4x, Jbb, ↓reduceIte, Nat.reduceEqDiff, Nat.reduceAdd, Nat.reduceLT, Nat.reduceMul]
  rfl
def J0x (b0 : Vector Int 16) (x4 : Int) (b1 : Vector Int 16) : Option (((Int × (Vector Int 16)) ⊕ ((Vector Int 16)))) :=
  if (decide (x4 < 16)) then
    J5c x4 x4 b0 b1 ((IntKind.wrap .u32 x4), 0)
  else
    Option.map (fun o => .inr o) (J2j b0 b1)
theorem J7b {b0 : Vector Int 16} {x4 : Int} {b1 : Vector Int 16} {o : ((Int × (Vector Int 16)) ⊕ ((Vector Int 16)))} (h : J0x b0 x4 b1 = some o) :
    rk (J5 p) JF 0 [.lo 2 [0, 1, 4] JO, .bl 0, .sq (.keep [0, 1] JR)] (X (J5 p) JO ⟨[(0, .ptr 0 0), (1, .ptr 1 0), (4, .p (.i .i64 x4))], [.box (List.map AV.p ((JM (r_i .u32)) b0)), .box (List.map AV.p ((JM (r_i .u32)) b1))]⟩) = (J1K p b0) o := by
  unfold J0x at h
  rcases Jg h with ⟨h1, h⟩ | ⟨h1, h⟩
  · try simp only [↓Da, Ua, JO, *, ↓reduceIte, Nat.reduceEqDiff, Nat.reduceAdd, Nat.reduceLT, Nat.reduceMul]
    have e0 := J9l p h
    first | exact e0 | (simp only [*] at e0; exact e0)
  · obtain ⟨o', h', rfl⟩ := mi h
    try simp only [↓Da, Ua, JO, *, ↓reduceIte, Nat.reduceEqDiff, Nat.reduceAdd, Nat.reduceLT, Nat.reduceMul]
    have e0 := Jac p h'
    first | exact e0 | (simp only [*] at e0; exact e0)
def J7v (b0 : Vector Int 16) (s : Int × (Vector Int 16)) : Option ((Vector Int 16)) :=
  J03 (fun s => J0x b0 s.1 s.2) s
theorem J9k {b0 : Vector Int 16} {s : Int × (Vector Int 16)} {o : (Vector Int 16)} (h : J7v b0 s = some o) :
    rk (J5 p) JF 0 [.bl 0, .sq (.keep [0, 1] JR)] (X (J5 p) (.lp 2 [0, 1, 4] JO) ⟨[(0, .ptr 0 0), (1, .ptr 1 0), (4, .p (.i .i64 s.1))], [.box (List.map AV.p ((JM (r_i .u32)) b0)), .box (List.map AV.p ((JM (r_i .u32)) s.2))]⟩) = J2e o := by
  have h0 : J03 (fun s => J0x b0 s.1 s.2) s = some o := h
  exact J3a (P := fun (s : Int × (Vector Int 16)) (o : (Vector Int 16)) => rk (J5 p) JF 0 [.bl 0, .sq (.keep [0, 1] JR)] (X (J5 p) (.lp 2 [0, 1, 4] JO) ⟨[(0, .ptr 0 0), (1, .ptr 1 0), (4, .p (.i .i64 s.1))], [.box (List.map AV.p ((JM (r_i .u32)) b0)), .box (List.map AV.p ((JM (r_i .u32)) s.2))]⟩) = J2e o) (fun s r hs => by rw [J2L]; exact J7b p hs) (fun s s1 r hs ih => by rw [J2L]; exact (J7b p hs).trans ih) h0
def J1D  : Option ((Vector Int 16)) :=
  J7v (Vector.replicate 16 0) (0, (Vector.replicate 16 0))
theorem J9n  {o : (Vector Int 16)} (h : J1D = some o) :
    rk (J5 p) JF 0 [] (X (J5 p) J34 ⟨[], []⟩) = J2e o := by
  unfold J1D at h
  try simp only [↓Da, Ua, J34, J4x, ↓reduceIte, Nat.reduceEqDiff, Nat.reduceAdd, Nat.reduceLT, Nat.reduceMul]
  have e0 := J9k p h
  first | exact e0 | (simp only [*] at e0; exact e0)
theorem Jbd  {o : (Vector Int 16)} (h : J1D = some o) : AF (J5 p) J2c [] [] = J2e o :=
  (J1e (J5 p) (JbE p) rfl).trans (J9n p h)
theorem JbB  {o : (Vector Int 16)} (h : J1D = some o) : ∀ ws new st, (Jr (AF (J5 p)) J2c ([], ws) 0 new).run st = some ⟨.data ((JM (r_i .u32)) o), ws⟩ := JD rfl (Jbd p h) rfl
def J8c  (r : Bool) : Option Res := some (.p (.b r), [])
def J0e (x0 : Je) : Option (Bool) :=
  if (decide (((List.length x0.Data : Nat) : Int) ≤ 12)) then
    if x0.Set then
      some true
    else
      some (x0.Data == [])
  else
    some false
theorem J9P {x0 : Je} {o : Bool} (h : J0e x0 = some o) :
    rk (J5 p) J2C 0 [] (X (J5 p) J1u ⟨[(0, .data (Jf x0))], []⟩) = J8c o := by
  unfold J0e at h
  rcases Jg h with ⟨h1, h⟩ | ⟨h1, h⟩
  · try simp only [↓Da, Ua, J1u, J2, *, ↓reduceIte, Nat.reduceEqDiff, Nat.reduceAdd, Nat.reduceLT, Nat.reduceMul]
    rcases Jg h with ⟨h2, h⟩ | ⟨h2, h⟩
    · obtain rfl := sj h
      try simp only [↓Da, Ua, J1u, J2, J6E, *, ↓reduceIte, Nat.reduceEqDiff, Nat.reduceAdd, Nat.reduceLT, Nat.reduceMul]
      rfl
    · obtain rfl := sj h
      try simp only [↓Da, Ua, J1u, J2, J6E, *, ↓reduceIte, Nat.reduceEqDiff, Nat.reduceAdd, Nat.reduceLT, Nat.reduceMul]
      rfl
  · obtain rfl := sj h
    try simp only [↓Da, Ua, J1u, J2, J6E, *, ↓reduceIte, Nat.reduceEqDiff, Nat.reduceAdd, Nat.reduceLT, Nat.reduceMul]
    rfl
theorem Jci {x0 : Je} {o : Bool} (h : J0e x0 = some o) : AF (J5 p) J2z [.data (Jf x0)] [] = J8c o :=
  (J1e (J5 p) (Jc6 p) rfl).trans (J9P p h)
theorem Jcq {x0 : Je} {o : Bool} (h : J0e x0 = some o) : ∀ ws new st, (Jr (AF (J5 p)) J2z ([.data (Jf x0)], ws) 0 new).run st = some ⟨.p (.b o), ws⟩ := JD rfl (Jci p h) rfl
end
end Go.Am
end
