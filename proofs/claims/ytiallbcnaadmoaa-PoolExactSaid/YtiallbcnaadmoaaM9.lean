/-
  Parts of a proof.
-/
import Derived.Test.YtiallbcnaadmoaaM6
import Derived.Test.YtiallbcnaadmoaaM7
import Derived.Test.YtiallbcnaadmoaaM8
set_option linter.unusedSimpArgs false
set_option linter.unusedVariables false
section
namespace Go.Am
set_option maxRecDepth 8000
set_option maxHeartbeats 4000000
set_option linter.unusedSimpArgs false
set_option linter.unusedVariables false
structure Jk where
  Set : Bool
  Data : List UInt8
  deriving DecidableEq
instance : Inhabited Jk := ⟨⟨false, []⟩⟩
def Jm (x : Jk) : List PV := (cat [.b x.Set] [.s x.Data])
theorem J0e (x : Jk) : (Jm x).length = 2 := by
  simp only [cat, Jm, List.length_append, List.length_cons, List.length_nil]
theorem Jcz (x : Jk) : sub (Jm x) 0 1 = some [.b x.Set] := by unfold Jm; exact J8b rfl
theorem JiL (x : Jk) (y : Bool) : spl (Jm x) 0 [.b y] = some (Jm ⟨y, x.Data⟩) := by unfold Jm; exact J80 rfl
theorem Jhd (x : Jk) : sub (Jm x) 1 1 = some [.s x.Data] := by
  have e0 : Jm x = cat [.b x.Set] [.s x.Data] := by unfold Jm; simp only [cat, List.append_assoc]
  rw [e0]; exact J9o (by simp only [cat, List.length_append, List.length_cons, List.length_nil]) rfl
theorem Jhh (x : Jk) (y : List UInt8) : spl (Jm x) 1 [.s y] = some (Jm ⟨x.Set, y⟩) := by
  have e0 : Jm x = cat [.b x.Set] [.s x.Data] := by unfold Jm; simp only [cat, List.append_assoc]
  have e1 : Jm ⟨x.Set, y⟩ = cat [.b x.Set] [.s y] := by unfold Jm; simp only [cat, List.append_assoc]
  rw [e0, e1]; exact J9r (by simp only [cat, List.length_append, List.length_cons, List.length_nil]) rfl
theorem JnP : (default : Jk) = (⟨false, []⟩ : Jk) := rfl
theorem Jmg (x : Jk) : sub (Jm x) 0 2 = some (Jm x) := Jal (J0e x)
theorem Jmk (x y : Jk) : spl (Jm x) 0 (Jm y) = some (Jm y) := Jao ((J0e x).trans (J0e y).symm)
theorem J5 : (∀ x : Jk, (Jm x).length = 2) ∧
  (∀ x : Jk, sub (Jm x) 0 1 = some [.b x.Set]) ∧
  (∀ (x : Jk) (y : Bool), spl (Jm x) 0 [.b y] = some (Jm ⟨y, x.Data⟩)) ∧
  (∀ x : Jk, sub (Jm x) 1 1 = some [.s x.Data]) ∧
  (∀ (x : Jk) (y : List UInt8), spl (Jm x) 1 [.s y] = some (Jm ⟨x.Set, y⟩)) ∧
  ((default : Jk) = (⟨false, []⟩ : Jk)) ∧
  (∀ x : Jk, sub (Jm x) 0 2 = some (Jm x)) ∧
  (∀ x y : Jk, spl (Jm x) 0 (Jm y) = some (Jm y)) :=
  ⟨@J0e, @Jcz, @JiL, @Jhd, @Jhh, JnP, @Jmg, @Jmk⟩
theorem Ji : (∀ x : Jk, Jm x = (cat [.b x.Set] [.s x.Data])) ∧ (default : Jk) = (⟨false, []⟩ : Jk) := ⟨fun _ => rfl, rfl⟩
theorem J0 : (∀ v : Vector Jk 16, (J06 Jm v).length = 32) ∧ (∀ v : Vector Jk 16, sub (J06 Jm v) 0 32 = some (J06 Jm v)) ∧ (∀ v y : Vector Jk 16, spl (J06 Jm v) 0 (J06 Jm y) = some (J06 Jm y)) :=
  ⟨fun v => J5Q J0e v, fun v => Jal (J5Q J0e v), fun v y => Jao ((J5Q J0e v).trans (J5Q J0e y).symm)⟩
structure T_api_Page where
  ID : Int
  LSN : Int
  Cells : Vector Jk 16
  deriving DecidableEq
instance : Inhabited T_api_Page := ⟨⟨0, 0, (Vector.replicate 16 (⟨false, []⟩ : Jk))⟩⟩
def J9 (x : T_api_Page) : List PV := (cat [.i .i64 x.ID] (cat [.i .i64 x.LSN] ((J06 Jm) x.Cells)))
theorem J1B (x : T_api_Page) : (J9 x).length = 34 := by
  simp only [cat, J9, (J5Q J0e x.Cells), List.length_append, List.length_cons, List.length_nil]
theorem J2T (x : T_api_Page) : sub (J9 x) 0 1 = some [.i .i64 x.ID] := by unfold J9; exact J8b rfl
theorem Jdj (x : T_api_Page) (y : Int) : spl (J9 x) 0 [.i .i64 y] = some (J9 ⟨y, x.LSN, x.Cells⟩) := by unfold J9; exact J80 rfl
theorem J1p (x : T_api_Page) : sub (J9 x) 1 1 = some [.i .i64 x.LSN] := by
  have e0 : J9 x = cat [.i .i64 x.ID] (cat [.i .i64 x.LSN] ((J06 Jm) x.Cells)) := by unfold J9; simp only [cat, List.append_assoc]
  rw [e0]; exact J9a (by simp only [cat, List.length_append, List.length_cons, List.length_nil, (J5Q J0e x.Cells)]) rfl
theorem Jj5 (x : T_api_Page) (y : Int) : spl (J9 x) 1 [.i .i64 y] = some (J9 ⟨x.ID, y, x.Cells⟩) := by
  have e0 : J9 x = cat [.i .i64 x.ID] (cat [.i .i64 x.LSN] ((J06 Jm) x.Cells)) := by unfold J9; simp only [cat, List.append_assoc]
  have e1 : J9 ⟨x.ID, y, x.Cells⟩ = cat [.i .i64 x.ID] (cat [.i .i64 y] ((J06 Jm) x.Cells)) := by unfold J9; simp only [cat, List.append_assoc]
  rw [e0, e1]; exact J9c (by simp only [cat, List.length_append, List.length_cons, List.length_nil, (J5Q J0e x.Cells)]) rfl
theorem J41 (x : T_api_Page) : sub (J9 x) 2 32 = some ((J06 Jm) x.Cells) := by
  have e0 : J9 x = cat (cat [.i .i64 x.ID] [.i .i64 x.LSN]) ((J06 Jm) x.Cells) := by unfold J9; simp only [cat, List.append_assoc]
  rw [e0]; exact J9o (by simp only [cat, List.length_append, List.length_cons, List.length_nil, (J5Q J0e x.Cells)]) (J5Q J0e _)
theorem J79 (x : T_api_Page) (y : Vector Jk 16) : spl (J9 x) 2 ((J06 Jm) y) = some (J9 ⟨x.ID, x.LSN, y⟩) := by
  have e0 : J9 x = cat (cat [.i .i64 x.ID] [.i .i64 x.LSN]) ((J06 Jm) x.Cells) := by unfold J9; simp only [cat, List.append_assoc]
  have e1 : J9 ⟨x.ID, x.LSN, y⟩ = cat (cat [.i .i64 x.ID] [.i .i64 x.LSN]) ((J06 Jm) y) := by unfold J9; simp only [cat, List.append_assoc]
  rw [e0, e1]; exact J9r (by simp only [cat, List.length_append, List.length_cons, List.length_nil, (J5Q J0e x.Cells)]) ((J5Q J0e _).trans (J5Q J0e _).symm)
theorem Joe : (default : T_api_Page) = (⟨0, 0, (Vector.replicate 16 (⟨false, []⟩ : Jk))⟩ : T_api_Page) := rfl
theorem Jmn (x : T_api_Page) : sub (J9 x) 0 34 = some (J9 x) := Jal (J1B x)
theorem Jma (x y : T_api_Page) : spl (J9 x) 0 (J9 y) = some (J9 y) := Jao ((J1B x).trans (J1B y).symm)
theorem J2 : (∀ x : T_api_Page, (J9 x).length = 34) ∧
  (∀ x : T_api_Page, sub (J9 x) 0 1 = some [.i .i64 x.ID]) ∧
  (∀ (x : T_api_Page) (y : Int), spl (J9 x) 0 [.i .i64 y] = some (J9 ⟨y, x.LSN, x.Cells⟩)) ∧
  (∀ x : T_api_Page, sub (J9 x) 1 1 = some [.i .i64 x.LSN]) ∧
  (∀ (x : T_api_Page) (y : Int), spl (J9 x) 1 [.i .i64 y] = some (J9 ⟨x.ID, y, x.Cells⟩)) ∧
  (∀ x : T_api_Page, sub (J9 x) 2 32 = some ((J06 Jm) x.Cells)) ∧
  (∀ (x : T_api_Page) (y : Vector Jk 16), spl (J9 x) 2 ((J06 Jm) y) = some (J9 ⟨x.ID, x.LSN, y⟩)) ∧
  ((default : T_api_Page) = (⟨0, 0, (Vector.replicate 16 (⟨false, []⟩ : Jk))⟩ : T_api_Page)) ∧
  (∀ x : T_api_Page, sub (J9 x) 0 34 = some (J9 x)) ∧
  (∀ x y : T_api_Page, spl (J9 x) 0 (J9 y) = some (J9 y)) :=
  ⟨@J1B, @J2T, @Jdj, @J1p, @Jj5, @J41, @J79, Joe, @Jmn, @Jma⟩
structure T_api_Frame where
  Page : T_api_Page
  Dirty : Bool
  Rec : Int
  Used : Bool
  deriving DecidableEq
instance : Inhabited T_api_Frame := ⟨⟨(⟨0, 0, (Vector.replicate 16 (⟨false, []⟩ : Jk))⟩ : T_api_Page), false, 0, false⟩⟩
def J7 (x : T_api_Frame) : List PV := (cat (J9 x.Page) (cat [.b x.Dirty] (cat [.i .i64 x.Rec] [.b x.Used])))
theorem Jac (x : T_api_Frame) : (J7 x).length = 37 := by
  simp only [cat, J7, J1B, List.length_append, List.length_cons, List.length_nil]
theorem JQ (x : T_api_Frame) : sub (J7 x) 0 34 = some (J9 x.Page) := by unfold J7; exact J8b (J1B _)
theorem JbG (x : T_api_Frame) (y : T_api_Page) : spl (J7 x) 0 (J9 y) = some (J7 ⟨y, x.Dirty, x.Rec, x.Used⟩) := by unfold J7; exact J80 ((J1B _).trans (J1B _).symm)
theorem JfO (x : T_api_Frame) : sub (J7 x) 34 1 = some [.b x.Dirty] := by
  have e0 : J7 x = cat (J9 x.Page) (cat [.b x.Dirty] (cat [.i .i64 x.Rec] [.b x.Used])) := by unfold J7; simp only [cat, List.append_assoc]
  rw [e0]; exact J9a (by simp only [cat, List.length_append, List.length_cons, List.length_nil, J1B]) rfl
theorem JfK (x : T_api_Frame) (y : Bool) : spl (J7 x) 34 [.b y] = some (J7 ⟨x.Page, y, x.Rec, x.Used⟩) := by
  have e0 : J7 x = cat (J9 x.Page) (cat [.b x.Dirty] (cat [.i .i64 x.Rec] [.b x.Used])) := by unfold J7; simp only [cat, List.append_assoc]
  have e1 : J7 ⟨x.Page, y, x.Rec, x.Used⟩ = cat (J9 x.Page) (cat [.b y] (cat [.i .i64 x.Rec] [.b x.Used])) := by unfold J7; simp only [cat, List.append_assoc]
  rw [e0, e1]; exact J9c (by simp only [cat, List.length_append, List.length_cons, List.length_nil, J1B]) rfl
theorem JhR (x : T_api_Frame) : sub (J7 x) 35 1 = some [.i .i64 x.Rec] := by
  have e0 : J7 x = cat (cat (J9 x.Page) [.b x.Dirty]) (cat [.i .i64 x.Rec] [.b x.Used]) := by unfold J7; simp only [cat, List.append_assoc]
  rw [e0]; exact J9a (by simp only [cat, List.length_append, List.length_cons, List.length_nil, J1B]) rfl
theorem JhI (x : T_api_Frame) (y : Int) : spl (J7 x) 35 [.i .i64 y] = some (J7 ⟨x.Page, x.Dirty, y, x.Used⟩) := by
  have e0 : J7 x = cat (cat (J9 x.Page) [.b x.Dirty]) (cat [.i .i64 x.Rec] [.b x.Used]) := by unfold J7; simp only [cat, List.append_assoc]
  have e1 : J7 ⟨x.Page, x.Dirty, y, x.Used⟩ = cat (cat (J9 x.Page) [.b x.Dirty]) (cat [.i .i64 y] [.b x.Used]) := by unfold J7; simp only [cat, List.append_assoc]
  rw [e0, e1]; exact J9c (by simp only [cat, List.length_append, List.length_cons, List.length_nil, J1B]) rfl
theorem Jgi (x : T_api_Frame) : sub (J7 x) 36 1 = some [.b x.Used] := by
  have e0 : J7 x = cat (cat (J9 x.Page) (cat [.b x.Dirty] [.i .i64 x.Rec])) [.b x.Used] := by unfold J7; simp only [cat, List.append_assoc]
  rw [e0]; exact J9o (by simp only [cat, List.length_append, List.length_cons, List.length_nil, J1B]) rfl
theorem JgB (x : T_api_Frame) (y : Bool) : spl (J7 x) 36 [.b y] = some (J7 ⟨x.Page, x.Dirty, x.Rec, y⟩) := by
  have e0 : J7 x = cat (cat (J9 x.Page) (cat [.b x.Dirty] [.i .i64 x.Rec])) [.b x.Used] := by unfold J7; simp only [cat, List.append_assoc]
  have e1 : J7 ⟨x.Page, x.Dirty, x.Rec, y⟩ = cat (cat (J9 x.Page) (cat [.b x.Dirty] [.i .i64 x.Rec])) [.b y] := by unfold J7; simp only [cat, List.append_assoc]
  rw [e0, e1]; exact J9r (by simp only [cat, List.length_append, List.length_cons, List.length_nil, J1B]) rfl
theorem Jme : (default : T_api_Frame) = (⟨(⟨0, 0, (Vector.replicate 16 (⟨false, []⟩ : Jk))⟩ : T_api_Page), false, 0, false⟩ : T_api_Frame) := rfl
theorem JkV (x : T_api_Frame) : sub (J7 x) 0 37 = some (J7 x) := Jal (Jac x)
theorem Jkt (x y : T_api_Frame) : spl (J7 x) 0 (J7 y) = some (J7 y) := Jao ((Jac x).trans (Jac y).symm)
theorem J4 : (∀ x : T_api_Frame, (J7 x).length = 37) ∧
  (∀ x : T_api_Frame, sub (J7 x) 0 34 = some (J9 x.Page)) ∧
  (∀ (x : T_api_Frame) (y : T_api_Page), spl (J7 x) 0 (J9 y) = some (J7 ⟨y, x.Dirty, x.Rec, x.Used⟩)) ∧
  (∀ x : T_api_Frame, sub (J7 x) 34 1 = some [.b x.Dirty]) ∧
  (∀ (x : T_api_Frame) (y : Bool), spl (J7 x) 34 [.b y] = some (J7 ⟨x.Page, y, x.Rec, x.Used⟩)) ∧
  (∀ x : T_api_Frame, sub (J7 x) 35 1 = some [.i .i64 x.Rec]) ∧
  (∀ (x : T_api_Frame) (y : Int), spl (J7 x) 35 [.i .i64 y] = some (J7 ⟨x.Page, x.Dirty, y, x.Used⟩)) ∧
  (∀ x : T_api_Frame, sub (J7 x) 36 1 = some [.b x.Used]) ∧
  (∀ (x : T_api_Frame) (y : Bool), spl (J7 x) 36 [.b y] = some (J7 ⟨x.Page, x.Dirty, x.Rec, y⟩)) ∧
  ((default : T_api_Frame) = (⟨(⟨0, 0, (Vector.replicate 16 (⟨false, []⟩ : Jk))⟩ : T_api_Page), false, 0, false⟩ : T_api_Frame)) ∧
  (∀ x : T_api_Frame, sub (J7 x) 0 37 = some (J7 x)) ∧
  (∀ x y : T_api_Frame, spl (J7 x) 0 (J7 y) = some (J7 y)) :=
  ⟨@Jac, @JQ, @JbG, @JfO, @JfK, @JhR, @JhI, @Jgi, @JgB, Jme, @JkV, @Jkt⟩
structure T_api_Pool where
  Size : Int
  Frames : List T_api_Frame
  Hand : Int
  deriving DecidableEq
instance : Inhabited T_api_Pool := ⟨⟨0, [], 0⟩⟩
def J3 (x : T_api_Pool) : List PV := (cat [.i .i64 x.Size] (cat [.sl 37 (List.map J7 x.Frames)] [.i .i64 x.Hand]))
theorem JaI (x : T_api_Pool) : (J3 x).length = 3 := by
  simp only [cat, J3, List.length_append, List.length_cons, List.length_nil]
theorem Jhu (x : T_api_Pool) : sub (J3 x) 0 1 = some [.i .i64 x.Size] := by unfold J3; exact J8b rfl
theorem Jhm (x : T_api_Pool) (y : Int) : spl (J3 x) 0 [.i .i64 y] = some (J3 ⟨y, x.Frames, x.Hand⟩) := by unfold J3; exact J80 rfl
theorem JfV (x : T_api_Pool) : sub (J3 x) 1 1 = some [.sl 37 (List.map J7 x.Frames)] := by
  have e0 : J3 x = cat [.i .i64 x.Size] (cat [.sl 37 (List.map J7 x.Frames)] [.i .i64 x.Hand]) := by unfold J3; simp only [cat, List.append_assoc]
  rw [e0]; exact J9a (by simp only [cat, List.length_append, List.length_cons, List.length_nil]) rfl
theorem Jfz (x : T_api_Pool) (y : List T_api_Frame) : spl (J3 x) 1 [.sl 37 (List.map J7 y)] = some (J3 ⟨x.Size, y, x.Hand⟩) := by
  have e0 : J3 x = cat [.i .i64 x.Size] (cat [.sl 37 (List.map J7 x.Frames)] [.i .i64 x.Hand]) := by unfold J3; simp only [cat, List.append_assoc]
  have e1 : J3 ⟨x.Size, y, x.Hand⟩ = cat [.i .i64 x.Size] (cat [.sl 37 (List.map J7 y)] [.i .i64 x.Hand]) := by unfold J3; simp only [cat, List.append_assoc]
  rw [e0, e1]; exact J9c (by simp only [cat, List.length_append, List.length_cons, List.length_nil]) rfl
theorem JhN (x : T_api_Pool) : sub (J3 x) 2 1 = some [.i .i64 x.Hand] := by
  have e0 : J3 x = cat (cat [.i .i64 x.Size] [.sl 37 (List.map J7 x.Frames)]) [.i .i64 x.Hand] := by unfold J3; simp only [cat, List.append_assoc]
  rw [e0]; exact J9o (by simp only [cat, List.length_append, List.length_cons, List.length_nil]) rfl
theorem Jhk (x : T_api_Pool) (y : Int) : spl (J3 x) 2 [.i .i64 y] = some (J3 ⟨x.Size, x.Frames, y⟩) := by
  have e0 : J3 x = cat (cat [.i .i64 x.Size] [.sl 37 (List.map J7 x.Frames)]) [.i .i64 x.Hand] := by unfold J3; simp only [cat, List.append_assoc]
  have e1 : J3 ⟨x.Size, x.Frames, y⟩ = cat (cat [.i .i64 x.Size] [.sl 37 (List.map J7 x.Frames)]) [.i .i64 y] := by unfold J3; simp only [cat, List.append_assoc]
  rw [e0, e1]; exact J9r (by simp only [cat, List.length_append, List.length_cons, List.length_nil]) rfl
theorem JnS : (default : T_api_Pool) = (⟨0, [], 0⟩ : T_api_Pool) := rfl
theorem Jmq (x : T_api_Pool) : sub (J3 x) 0 3 = some (J3 x) := Jal (JaI x)
theorem JmB (x y : T_api_Pool) : spl (J3 x) 0 (J3 y) = some (J3 y) := Jao ((JaI x).trans (JaI y).symm)
theorem J8 : (∀ x : T_api_Pool, (J3 x).length = 3) ∧
  (∀ x : T_api_Pool, sub (J3 x) 0 1 = some [.i .i64 x.Size]) ∧
  (∀ (x : T_api_Pool) (y : Int), spl (J3 x) 0 [.i .i64 y] = some (J3 ⟨y, x.Frames, x.Hand⟩)) ∧
  (∀ x : T_api_Pool, sub (J3 x) 1 1 = some [.sl 37 (List.map J7 x.Frames)]) ∧
  (∀ (x : T_api_Pool) (y : List T_api_Frame), spl (J3 x) 1 [.sl 37 (List.map J7 y)] = some (J3 ⟨x.Size, y, x.Hand⟩)) ∧
  (∀ x : T_api_Pool, sub (J3 x) 2 1 = some [.i .i64 x.Hand]) ∧
  (∀ (x : T_api_Pool) (y : Int), spl (J3 x) 2 [.i .i64 y] = some (J3 ⟨x.Size, x.Frames, y⟩)) ∧
  ((default : T_api_Pool) = (⟨0, [], 0⟩ : T_api_Pool)) ∧
  (∀ x : T_api_Pool, sub (J3 x) 0 3 = some (J3 x)) ∧
  (∀ x y : T_api_Pool, spl (J3 x) 0 (J3 y) = some (J3 y)) :=
  ⟨@JaI, @Jhu, @Jhm, @JfV, @Jfz, @JhN, @Jhk, JnS, @Jmq, @JmB⟩
theorem Jh : (∀ x : T_api_Pool, J3 x = (cat [.i .i64 x.Size] (cat [.sl 37 (List.map J7 x.Frames)] [.i .i64 x.Hand]))) ∧ (default : T_api_Pool) = (⟨0, [], 0⟩ : T_api_Pool) := ⟨fun _ => rfl, rfl⟩
structure T_api_Dirty where
  Page : Int
  Rec : Int
  Last : Int
  deriving DecidableEq
instance : Inhabited T_api_Dirty := ⟨⟨0, 0, 0⟩⟩
def Je (x : T_api_Dirty) : List PV := (cat [.i .i64 x.Page] (cat [.i .i64 x.Rec] [.i .i64 x.Last]))
theorem Jab (x : T_api_Dirty) : (Je x).length = 3 := by
  simp only [cat, Je, List.length_append, List.length_cons, List.length_nil]
theorem Jgm (x : T_api_Dirty) : sub (Je x) 0 1 = some [.i .i64 x.Page] := by unfold Je; exact J8b rfl
theorem Jga (x : T_api_Dirty) (y : Int) : spl (Je x) 0 [.i .i64 y] = some (Je ⟨y, x.Rec, x.Last⟩) := by unfold Je; exact J80 rfl
theorem JhQ (x : T_api_Dirty) : sub (Je x) 1 1 = some [.i .i64 x.Rec] := by
  have e0 : Je x = cat [.i .i64 x.Page] (cat [.i .i64 x.Rec] [.i .i64 x.Last]) := by unfold Je; simp only [cat, List.append_assoc]
  rw [e0]; exact J9a (by simp only [cat, List.length_append, List.length_cons, List.length_nil]) rfl
theorem JhF (x : T_api_Dirty) (y : Int) : spl (Je x) 1 [.i .i64 y] = some (Je ⟨x.Page, y, x.Last⟩) := by
  have e0 : Je x = cat [.i .i64 x.Page] (cat [.i .i64 x.Rec] [.i .i64 x.Last]) := by unfold Je; simp only [cat, List.append_assoc]
  have e1 : Je ⟨x.Page, y, x.Last⟩ = cat [.i .i64 x.Page] (cat [.i .i64 y] [.i .i64 x.Last]) := by unfold Je; simp only [cat, List.append_assoc]
  rw [e0, e1]; exact J9c (by simp only [cat, List.length_append, List.length_cons, List.length_nil]) rfl
theorem Jgu (x : T_api_Dirty) : sub (Je x) 2 1 = some [.i .i64 x.Last] := by
  have e0 : Je x = cat (cat [.i .i64 x.Page] [.i .i64 x.Rec]) [.i .i64 x.Last] := by unfold Je; simp only [cat, List.append_assoc]
  rw [e0]; exact J9o (by simp only [cat, List.length_append, List.length_cons, List.length_nil]) rfl
theorem Jgd (x : T_api_Dirty) (y : Int) : spl (Je x) 2 [.i .i64 y] = some (Je ⟨x.Page, x.Rec, y⟩) := by
  have e0 : Je x = cat (cat [.i .i64 x.Page] [.i .i64 x.Rec]) [.i .i64 x.Last] := by unfold Je; simp only [cat, List.append_assoc]
  have e1 : Je ⟨x.Page, x.Rec, y⟩ = cat (cat [.i .i64 x.Page] [.i .i64 x.Rec]) [.i .i64 y] := by unfold Je; simp only [cat, List.append_assoc]
  rw [e0, e1]; exact J9r (by simp only [cat, List.length_append, List.length_cons, List.length_nil]) rfl
theorem Jmu : (default : T_api_Dirty) = (⟨0, 0, 0⟩ : T_api_Dirty) := rfl
theorem JkA (x : T_api_Dirty) : sub (Je x) 0 3 = some (Je x) := Jal (Jab x)
theorem Jky (x y : T_api_Dirty) : spl (Je x) 0 (Je y) = some (Je y) := Jao ((Jab x).trans (Jab y).symm)
theorem J00 : (∀ x : T_api_Dirty, (Je x).length = 3) ∧
  (∀ x : T_api_Dirty, sub (Je x) 0 1 = some [.i .i64 x.Page]) ∧
  (∀ (x : T_api_Dirty) (y : Int), spl (Je x) 0 [.i .i64 y] = some (Je ⟨y, x.Rec, x.Last⟩)) ∧
  (∀ x : T_api_Dirty, sub (Je x) 1 1 = some [.i .i64 x.Rec]) ∧
  (∀ (x : T_api_Dirty) (y : Int), spl (Je x) 1 [.i .i64 y] = some (Je ⟨x.Page, y, x.Last⟩)) ∧
  (∀ x : T_api_Dirty, sub (Je x) 2 1 = some [.i .i64 x.Last]) ∧
  (∀ (x : T_api_Dirty) (y : Int), spl (Je x) 2 [.i .i64 y] = some (Je ⟨x.Page, x.Rec, y⟩)) ∧
  ((default : T_api_Dirty) = (⟨0, 0, 0⟩ : T_api_Dirty)) ∧
  (∀ x : T_api_Dirty, sub (Je x) 0 3 = some (Je x)) ∧
  (∀ x y : T_api_Dirty, spl (Je x) 0 (Je y) = some (Je y)) :=
  ⟨@Jab, @Jgm, @Jga, @JhQ, @JhF, @Jgu, @Jgd, Jmu, @JkA, @Jky⟩
structure T_pagemenddraw_Codes where
  l_ : List Int
  at_ : Int
  deriving DecidableEq
instance : Inhabited T_pagemenddraw_Codes := ⟨⟨[], 0⟩⟩
def J1 (x : T_pagemenddraw_Codes) : List PV := (cat [.sl 1 (List.map (r_i .u8) x.l_)] [.i .i64 x.at_])
theorem J5j (x : T_pagemenddraw_Codes) : (J1 x).length = 2 := by
  simp only [cat, J1, List.length_append, List.length_cons, List.length_nil]
theorem Jcq (x : T_pagemenddraw_Codes) : sub (J1 x) 0 1 = some [.sl 1 (List.map (r_i .u8) x.l_)] := by unfold J1; exact J8b rfl
theorem Jcd (x : T_pagemenddraw_Codes) (y : List Int) : spl (J1 x) 0 [.sl 1 (List.map (r_i .u8) y)] = some (J1 ⟨y, x.at_⟩) := by unfold J1; exact J80 rfl
theorem JbS (x : T_pagemenddraw_Codes) : sub (J1 x) 1 1 = some [.i .i64 x.at_] := by
  have e0 : J1 x = cat [.sl 1 (List.map (r_i .u8) x.l_)] [.i .i64 x.at_] := by unfold J1; simp only [cat, List.append_assoc]
  rw [e0]; exact J9o (by simp only [cat, List.length_append, List.length_cons, List.length_nil]) rfl
theorem JbR (x : T_pagemenddraw_Codes) (y : Int) : spl (J1 x) 1 [.i .i64 y] = some (J1 ⟨x.l_, y⟩) := by
  have e0 : J1 x = cat [.sl 1 (List.map (r_i .u8) x.l_)] [.i .i64 x.at_] := by unfold J1; simp only [cat, List.append_assoc]
  have e1 : J1 ⟨x.l_, y⟩ = cat [.sl 1 (List.map (r_i .u8) x.l_)] [.i .i64 y] := by unfold J1; simp only [cat, List.append_assoc]
  rw [e0, e1]; exact J9r (by simp only [cat, List.length_append, List.length_cons, List.length_nil]) rfl
theorem Jdx : (default : T_pagemenddraw_Codes) = (⟨[], 0⟩ : T_pagemenddraw_Codes) := rfl
theorem JcU (x : T_pagemenddraw_Codes) : sub (J1 x) 0 2 = some (J1 x) := Jal (J5j x)
theorem JcW (x y : T_pagemenddraw_Codes) : spl (J1 x) 0 (J1 y) = some (J1 y) := Jao ((J5j x).trans (J5j y).symm)
theorem Jb : (∀ x : T_pagemenddraw_Codes, (J1 x).length = 2) ∧
  (∀ x : T_pagemenddraw_Codes, sub (J1 x) 0 1 = some [.sl 1 (List.map (r_i .u8) x.l_)]) ∧
  (∀ (x : T_pagemenddraw_Codes) (y : List Int), spl (J1 x) 0 [.sl 1 (List.map (r_i .u8) y)] = some (J1 ⟨y, x.at_⟩)) ∧
  (∀ x : T_pagemenddraw_Codes, sub (J1 x) 1 1 = some [.i .i64 x.at_]) ∧
  (∀ (x : T_pagemenddraw_Codes) (y : Int), spl (J1 x) 1 [.i .i64 y] = some (J1 ⟨x.l_, y⟩)) ∧
  ((default : T_pagemenddraw_Codes) = (⟨[], 0⟩ : T_pagemenddraw_Codes)) ∧
  (∀ x : T_pagemenddraw_Codes, sub (J1 x) 0 2 = some (J1 x)) ∧
  (∀ x y : T_pagemenddraw_Codes, spl (J1 x) 0 (J1 y) = some (J1 y)) :=
  ⟨@J5j, @Jcq, @Jcd, @JbS, @JbR, Jdx, @JcU, @JcW⟩
theorem Jq : (∀ x : T_pagemenddraw_Codes, J1 x = (cat [.sl 1 (List.map (r_i .u8) x.l_)] [.i .i64 x.at_])) ∧ (default : T_pagemenddraw_Codes) = (⟨[], 0⟩ : T_pagemenddraw_Codes) := ⟨fun _ => rfl, rfl⟩
structure T_page_builder where
  s_ : List UInt8
  deriving DecidableEq
instance : Inhabited T_page_builder := ⟨⟨[]⟩⟩
def J0O (x : T_page_builder) : List PV := [.s x.s_]
theorem JI : (∀ x : T_page_builder, J0O x = [.s x.s_]) ∧ (default : T_page_builder) = (⟨[]⟩ : T_page_builder) := ⟨fun _ => rfl, rfl⟩
theorem J71 : (∀ v : Vector Int 16, (J06 (r_i .u32) v).length = 16) ∧ (∀ v : Vector Int 16, sub (J06 (r_i .u32) v) 0 16 = some (J06 (r_i .u32) v)) ∧ (∀ v y : Vector Int 16, spl (J06 (r_i .u32) v) 0 (J06 (r_i .u32) y) = some (J06 (r_i .u32) y)) :=
  ⟨fun v => J5Q (Jbk .u32) v, fun v => Jal (J5Q (Jbk .u32) v), fun v y => Jao ((J5Q (Jbk .u32) v).trans (J5Q (Jbk .u32) y).symm)⟩
theorem JmD (x y : Jk) : J0Q [.b, .s] (Jm x) (Jm y) = some (decide (x = y)) := by
  have h := (J9l (Jqg x.Set y.Set) (Jwv x.Data y.Data))
  have e : decide (x.Set = y.Set ∧ (x.Data = y.Data)) = decide (x = y) := decide_eq_decide.2 (by cases x; cases y; simp only [Jk.mk.injEq])
  exact h.trans (congrArg some e)
theorem Jfn (x y : T_api_Page) : J0Q [(.i .i64), (.i .i64), .b, .s, .b, .s, .b, .s, .b, .s, .b, .s, .b, .s, .b, .s, .b, .s, .b, .s, .b, .s, .b, .s, .b, .s, .b, .s, .b, .s, .b, .s, .b, .s] (J9 x) (J9 y) = some (decide (x = y)) := by
  have h := (J9l (Jh8 .i64 x.ID y.ID) (J9l (Jh8 .i64 x.LSN y.LSN) (JvG (fun x y => (JmD x y)) x.Cells y.Cells)))
  have e : decide (x.ID = y.ID ∧ (x.LSN = y.LSN ∧ (x.Cells = y.Cells))) = decide (x = y) := decide_eq_decide.2 (by cases x; cases y; simp only [T_api_Page.mk.injEq])
  exact h.trans (congrArg some e)
theorem J25 (x y : T_api_Page) : J0Q [(.i .i64), (.i .i64), .b, .s, .b, .s, .b, .s, .b, .s, .b, .s, .b, .s, .b, .s, .b, .s, .b, .s, .b, .s, .b, .s, .b, .s, .b, .s, .b, .s, .b, .s, .b, .s] (J9 x) (J9 y) = some (x == y) := Jfn x y
theorem JkC (x y : T_api_Frame) : J0Q [(.i .i64), (.i .i64), .b, .s, .b, .s, .b, .s, .b, .s, .b, .s, .b, .s, .b, .s, .b, .s, .b, .s, .b, .s, .b, .s, .b, .s, .b, .s, .b, .s, .b, .s, .b, .s, .b, (.i .i64), .b] (J7 x) (J7 y) = some (decide (x = y)) := by
  have h := (J9l (Jfn x.Page y.Page) (J9l (Jqg x.Dirty y.Dirty) (J9l (Jh8 .i64 x.Rec y.Rec) (Jqg x.Used y.Used))))
  have e : decide (x.Page = y.Page ∧ (x.Dirty = y.Dirty ∧ (x.Rec = y.Rec ∧ (x.Used = y.Used)))) = decide (x = y) := decide_eq_decide.2 (by cases x; cases y; simp only [T_api_Frame.mk.injEq])
  exact h.trans (congrArg some e)
theorem JbI (x y : T_api_Frame) : J0Q [(.i .i64), (.i .i64), .b, .s, .b, .s, .b, .s, .b, .s, .b, .s, .b, .s, .b, .s, .b, .s, .b, .s, .b, .s, .b, .s, .b, .s, .b, .s, .b, .s, .b, .s, .b, .s, .b, (.i .i64), .b] (J7 x) (J7 y) = some (x == y) := JkC x y
theorem JkM (x y : T_api_Dirty) : J0Q [(.i .i64), (.i .i64), (.i .i64)] (Je x) (Je y) = some (decide (x = y)) := by
  have h := (J9l (Jh8 .i64 x.Page y.Page) (J9l (Jh8 .i64 x.Rec y.Rec) (Jh8 .i64 x.Last y.Last)))
  have e : decide (x.Page = y.Page ∧ (x.Rec = y.Rec ∧ (x.Last = y.Last))) = decide (x = y) := decide_eq_decide.2 (by cases x; cases y; simp only [T_api_Dirty.mk.injEq])
  exact h.trans (congrArg some e)
theorem JbO (x y : T_api_Dirty) : J0Q [(.i .i64), (.i .i64), (.i .i64)] (Je x) (Je y) = some (x == y) := JkM x y
def J8n : List PV → Option T_api_Dirty
  | [.i .i64 a0, .i .i64 a1, .i .i64 a2] => some ⟨a0, a1, a2⟩
  | _ => none
end Go.Am
end
section
namespace Go.Am
set_option maxRecDepth 8000
set_option maxHeartbeats 4000000
set_option linter.unusedSimpArgs false
set_option linter.unusedVariables false
abbrev J7r : FuncId := 17
abbrev J9D : FuncId := 19
abbrev J1v : FuncId := 30
abbrev Jd : FuncId := 31
abbrev J5F : FuncId := 37
abbrev J2F : FuncId := 64
abbrev J6J : FuncId := 76
abbrev J82 : FuncId := 77
abbrev J6Z : FuncId := 78
abbrev J6A : FuncId := 79
abbrev J7K : FuncId := 80
abbrev J6k : FuncId := 81
abbrev J8r : FuncId := 82
abbrev J9A : FuncId := 83
abbrev J6L : FuncId := 84
abbrev J4A : FuncId := 85
abbrev J7e : FuncId := 86
abbrev J1J : FuncId := 87
abbrev J1n : FuncId := 88
abbrev J3y : FuncId := 89
abbrev J5M : FuncId := 90
abbrev J65 : FuncId := 91
abbrev J5k : FuncId := 92
abbrev J4r : FuncId := 93
abbrev J2b : FuncId := 94
abbrev J83 : FuncId := 95
abbrev J7j : FuncId := 96
abbrev J7W : FuncId := 97
abbrev J4O : FuncId := 98
abbrev J1g : FuncId := 99
abbrev J66 : FuncId := 100
abbrev J56 : FuncId := 101
abbrev J5J : FuncId := 102
abbrev J50 : FuncId := 103
abbrev J7f : FuncId := 104
abbrev J1q : FuncId := 105
abbrev J2d : FuncId := 108
abbrev J2E : FuncId := 120
abbrev J5B : FuncId := 121
abbrev J5N : FuncId := 128
abbrev J6p : FuncId := 129
abbrev J18 : FuncId := 130
abbrev J30 : FuncId := 131
abbrev J7l : FuncId := 132
abbrev J3R : FuncId := 162
abbrev J0o : FuncId := 163
abbrev J1s : FuncId := 164
abbrev J0R : FuncId := 165
abbrev J8S : FuncId := 166
abbrev J9Q : FuncId := 167
abbrev J16 : FuncId := 168
abbrev JT : FuncId := 169
abbrev J4q : FuncId := 170
abbrev J5A : FuncId := 171
abbrev J7V : FuncId := 172
abbrev J38 : FuncId := 173
abbrev J5m : FuncId := 174
abbrev J7P : FuncId := 184
abbrev J45 : FuncId := 191
abbrev J0l : FuncId := 211
abbrev J13 : FuncId := 212
abbrev J8R : FuncId := 215
abbrev J4E : FuncId := 216
abbrev Jc0 : FuncId := 243
abbrev Jc1 : FuncId := 244
abbrev J9Y : FuncId := 252
def JcI : Jn := .seq (.reg false [] [⟨.mv (.t 0), some 12, none⟩,
    ⟨.build (J1 default) [(0, 1, (.t 12))], some 13, none⟩,
    ⟨.box 2 (.t 13), some 14, none⟩,
    ⟨.mv (.t 14), some 4, none⟩])
  (.ret)
def J9m : Jn := .seq (.reg false [] [⟨.mv (.c (.p .np)), some 4, none⟩])
  (.seq (.seq (.reg false [] [⟨.mv (.t 0), some 5, none⟩,
    ⟨.len false (.t 5), some 6, none⟩,
    ⟨.mv (.t 1), some 7, none⟩,
    ⟨.bin .gtr .plain (.t 6) (.t 7), some 8, none⟩])
  (.keep [0, 1, 8] (.cond (.t 8)
  (.reg false [] [⟨.mv (.t 0), some 9, none⟩,
      ⟨.mv (.t 1), some 10, none⟩,
      ⟨.slice (.sl 1) (.t 9) none (some (.t 10)) none, some 11, none⟩,
      ⟨.mv (.t 11), some 0, none⟩])
  (.skip))))
  (.keep [0] JcI))
def J8e : AFn := ⟨2, 15, J9m, [.tmp 4], false⟩
def J1u : Jn := .seq (.reg false [] [⟨.mv (.c (.p (.i .i64 0))), some 4, none⟩])
  (.seq (.seq (.reg true [] [⟨.mv (.t 0), some 6, none⟩,
    ⟨.nilchk (.t 6), some 7, none⟩,
    ⟨.faddr 1 (.t 7), some 8, none⟩,
    ⟨.load false 1 (.t 8), some 9, none⟩,
    ⟨.mv (.t 0), some 10, none⟩,
    ⟨.nilchk (.t 10), some 11, none⟩,
    ⟨.faddr 0 (.t 11), some 12, none⟩,
    ⟨.load false 1 (.t 12), some 13, none⟩,
    ⟨.len false (.t 13), some 14, none⟩,
    ⟨.bin .geq .plain (.t 9) (.t 14), some 15, none⟩,
    ⟨.mv (.t 15), some 16, none⟩,
    ⟨.mv (.t 1), some 17, some (16, false)⟩,
    ⟨.bin .lss .plain (.t 17) (.c (.p (.i .i64 1))), some 18, some (16, false)⟩,
    ⟨.pick (.t 16) (.c (.p (.b true))) (.t 18), some 19, none⟩])
  (.keep [0, 1, 19] (.cond (.t 19)
  (.seq (.reg false [] [⟨.mv (.c (.p (.i .i64 0))), some 4, none⟩])
    (.ret))
  (.skip))))
  (.seq (.reg true [] [⟨.mv (.t 0), some 20, none⟩,
    ⟨.nilchk (.t 20), some 21, none⟩,
    ⟨.faddr 0 (.t 21), some 22, none⟩,
    ⟨.load false 1 (.t 22), some 23, none⟩,
    ⟨.mv (.t 0), some 24, none⟩,
    ⟨.nilchk (.t 24), some 25, none⟩,
    ⟨.faddr 1 (.t 25), some 26, none⟩,
    ⟨.load false 1 (.t 26), some 27, none⟩,
    ⟨.iaddr 1 (.t 23) (.t 27), some 28, none⟩,
    ⟨.load false 1 (.t 28), some 29, none⟩,
    ⟨.conv (.int .i64) (.t 29), some 30, none⟩,
    ⟨.mv (.t 30), some 5, none⟩])
  (.keep [0, 1, 5] (.seq (.reg false [] [⟨.mv (.t 0), some 31, none⟩,
    ⟨.nilchk (.t 31), some 32, none⟩,
    ⟨.faddr 1 (.t 32), some 33, none⟩,
    ⟨.load false 1 (.t 33), some 34, none⟩,
    ⟨.bin .add .plain (.t 34) (.c (.p (.i .i64 1))), some 35, none⟩,
    ⟨.nilchk (.t 31), some 36, none⟩,
    ⟨.faddr 1 (.t 36), some 37, none⟩,
    ⟨.store 1 (.t 37) (.t 35), none, none⟩])
  (.keep [0, 1, 5] (.seq (.seq (.reg false [] [⟨.mv (.t 1), some 38, none⟩,
    ⟨.bin .gtr .plain (.t 38) (.c (.p (.i .i64 256))), some 39, none⟩])
  (.cond (.t 39)
  (.seq (.reg false [] [⟨.mv (.t 5), some 40, none⟩,
      ⟨.bin .mul .plain (.c (.p (.i .i64 256))) (.t 40), some 41, none⟩,
      ⟨.mv (.t 0), some 42, none⟩,
      ⟨.call Jd [(.t 42), (.c (.p (.i .i64 256)))] 0, some 43, none⟩,
      ⟨.bin .add .plain (.t 41) (.t 43), some 44, none⟩,
      ⟨.mv (.t 1), some 45, none⟩,
      ⟨.bin .rem .plain (.t 44) (.t 45), some 46, none⟩,
      ⟨.mv (.t 46), some 4, none⟩])
    (.ret))
  (.skip)))
  (.seq (.reg false [] [⟨.mv (.t 5), some 47, none⟩,
    ⟨.mv (.t 1), some 48, none⟩,
    ⟨.bin .rem .plain (.t 47) (.t 48), some 49, none⟩,
    ⟨.mv (.t 49), some 4, none⟩])
  (.ret))))))))
def J4I : AFn := ⟨2, 50, J1u, [.tmp 4], false⟩
def J1Y : Jn := .seq (.seq (.reg false [] [⟨.mv (.t 5), some 15, none⟩,
    ⟨.mv (.t 3), some 16, none⟩,
    ⟨.bin .lss .plain (.t 15) (.t 16), some 17, none⟩])
  (.keep [0, 3, 4, 5, 17] (.cond (.t 17)
  (.skip)
  (.exit 0))))
  (.seq (.block 1 (.reg false [] [⟨.mv (.t 4), some 20, none⟩,
    ⟨.mv (.t 0), some 21, none⟩,
    ⟨.call Jd [(.t 21), (.c (.p (.i .i64 3)))] 0, some 22, none⟩,
    ⟨.bin .add .plain (.c (.p (.i .i64 97))) (.t 22), some 23, none⟩,
    ⟨.conv (.int .u8) (.t 23), some 24, none⟩,
    ⟨.lits false 1 1 [(.i .u8 0)] [(0, (.t 24))], some 25, none⟩,
    ⟨.app 1 1 [(.i .u8 0)] (.t 20) (.t 25), some 26, none⟩,
    ⟨.mv (.t 26), some 4, none⟩]))
  (.reg false [] [⟨.mv (.t 5), some 18, none⟩,
    ⟨.bin .add .plain (.t 18) (.c (.p (.i .i64 1))), some 19, none⟩,
    ⟨.mv (.t 19), some 5, none⟩]))
def J2O : Jn := .seq (.reg false [] [⟨.mv (.t 4), some 27, none⟩,
    ⟨.conv .toStr (.t 27), some 28, none⟩,
    ⟨.mv (.t 28), some 2, none⟩])
  (.ret)
def J8C : Jn := .seq (.reg false [] [⟨.mv (.t 3), some 13, none⟩,
    ⟨.mkslice true 1 1 [(.i .u8 0)] (.c (.p (.i .i64 0))) (.t 13), some 14, none⟩,
    ⟨.mv (.t 14), some 4, none⟩])
  (.keep [0, 3, 4] (.seq (.seq (.reg false [] [⟨.mv (.c (.p (.i .i64 0))), some 5, none⟩])
  (.block 0 (.loop [0, 3, 4, 5] J1Y)))
  (.keep [4] J2O)))
def J3z : Jn := .seq (.reg false [] [⟨.mv (.c (.p (.s []))), some 2, none⟩])
  (.seq (.reg false [] [⟨.mv (.t 0), some 6, none⟩,
    ⟨.call Jd [(.t 6), (.c (.p (.i .i64 5)))] 0, some 7, none⟩,
    ⟨.mv (.t 7), some 3, none⟩])
  (.keep [0, 3] (.seq (.seq (.reg false [] [⟨.mv (.t 0), some 8, none⟩,
    ⟨.call Jd [(.t 8), (.c (.p (.i .i64 6)))] 0, some 9, none⟩,
    ⟨.bin .eql .plain (.t 9) (.c (.p (.i .i64 0))), some 10, none⟩])
  (.keep [0, 3, 10] (.cond (.t 10)
  (.reg false [] [⟨.mv (.t 0), some 11, none⟩,
      ⟨.call Jd [(.t 11), (.c (.p (.i .i64 14)))] 0, some 12, none⟩,
      ⟨.mv (.t 12), some 3, none⟩])
  (.skip))))
  (.keep [0, 3] J8C))))
def J0V : AFn := ⟨1, 29, J3z, [.tmp 2], false⟩
def J6T : Jn := .seq (.reg false [] [⟨.newbox (J3 default), some 2, none⟩,
    ⟨.mv (.c (.p (.i .i64 0))), some 3, none⟩])
  (.seq (.seq (.reg false [] [⟨.mv (.t 0), some 4, none⟩,
    ⟨.bin .lss .plain (.t 4) (.c (.p (.i .i64 1))), some 5, none⟩,
    ⟨.mv (.t 5), some 6, none⟩,
    ⟨.mv (.t 0), some 7, some (6, false)⟩,
    ⟨.bin .gtr .plain (.t 7) (.c (.p (.i .i64 64))), some 8, some (6, false)⟩,
    ⟨.pick (.t 6) (.c (.p (.b true))) (.t 8), some 9, none⟩])
  (.keep [0, 2, 9] (.cond (.t 9)
  (.seq (.reg false [] [⟨.build (J3 default) [], some 10, none⟩,
      ⟨.store 3 (.t 2) (.t 10), none, none⟩,
      ⟨.mv (.c (.p (.i .i64 1))), some 3, none⟩])
    (.ret))
  (.skip))))
  (.seq (.reg false [] [⟨.mv (.t 0), some 11, none⟩,
    ⟨.build (J3 default) [(0, 1, (.t 11))], some 12, none⟩,
    ⟨.store 3 (.t 2) (.t 12), none, none⟩,
    ⟨.mv (.c (.p (.i .i64 0))), some 3, none⟩])
  (.ret)))
def J9H : AFn := ⟨1, 13, J6T, [.cell 2 true 3, .tmp 3], false⟩
def J19 : Jn := .seq (.seq (.reg false [] [⟨.mv (.t 5), some 11, none⟩,
    ⟨.mv (.t 0), some 12, none⟩,
    ⟨.len false (.t 12), some 13, none⟩,
    ⟨.bin .lss .plain (.t 11) (.t 13), some 14, none⟩])
  (.keep [0, 1, 5, 14] (.cond (.t 14)
  (.skip)
  (.exit 0))))
  (.seq (.block 1 (.seq (.reg true [] [⟨.mv (.t 0), some 17, none⟩,
    ⟨.mv (.t 5), some 18, none⟩,
    ⟨.iaddr 3 (.t 17) (.t 18), some 19, none⟩,
    ⟨.load true 3 (.t 19), some 20, none⟩,
    ⟨.mv (.t 1), some 21, none⟩,
    ⟨.mv (.t 5), some 22, none⟩,
    ⟨.iaddr 3 (.t 21) (.t 22), some 23, none⟩,
    ⟨.load true 3 (.t 23), some 24, none⟩,
    ⟨.bin .neq (.flat [(.i .i64), (.i .i64), (.i .i64)]) (.t 20) (.t 24), some 25, none⟩])
  (.keep [0, 1, 5, 25] (.cond (.t 25)
  (.seq (.reg false [] [⟨.mv (.c (.p (.b false))), some 4, none⟩])
    (.ret))
  (.skip)))))
  (.reg false [] [⟨.mv (.t 5), some 15, none⟩,
    ⟨.bin .add .plain (.t 15) (.c (.p (.i .i64 1))), some 16, none⟩,
    ⟨.mv (.t 16), some 5, none⟩]))
def J2R : Jn := .seq (.reg false [] [⟨.mv (.c (.p (.b true))), some 4, none⟩])
  (.ret)
def J4F : Jn := .seq (.reg false [] [⟨.mv (.c (.p (.b false))), some 4, none⟩])
  (.seq (.seq (.reg false [] [⟨.mv (.t 0), some 6, none⟩,
    ⟨.len false (.t 6), some 7, none⟩,
    ⟨.mv (.t 1), some 8, none⟩,
    ⟨.len false (.t 8), some 9, none⟩,
    ⟨.bin .neq .plain (.t 7) (.t 9), some 10, none⟩])
  (.keep [0, 1, 10] (.cond (.t 10)
  (.seq (.reg false [] [⟨.mv (.c (.p (.b false))), some 4, none⟩])
    (.ret))
  (.skip))))
  (.seq (.seq (.reg false [] [⟨.mv (.c (.p (.i .i64 0))), some 5, none⟩])
  (.block 0 (.loop [0, 1, 5] J19)))
  (.keep [] J2R)))
def J1d : AFn := ⟨2, 26, J4F, [.tmp 4], false⟩
def J2x : Jn := .seq (.seq (.reg false [] [⟨.mv (.t 5), some 27, none⟩,
    ⟨.faddr 1 (.t 2), some 28, none⟩,
    ⟨.load false 1 (.t 28), some 29, none⟩,
    ⟨.len false (.t 29), some 30, none⟩,
    ⟨.bin .lss .plain (.t 27) (.t 30), some 31, none⟩])
  (.keep [2, 3, 5, 31] (.cond (.t 31)
  (.skip)
  (.exit 0))))
  (.seq (.block 1 (.seq (.reg true [] [⟨.faddr 1 (.t 2), some 34, none⟩,
    ⟨.load false 1 (.t 34), some 35, none⟩,
    ⟨.mv (.t 5), some 36, none⟩,
    ⟨.iaddr 37 (.t 35) (.t 36), some 37, none⟩,
    ⟨.load true 37 (.t 37), some 38, none⟩,
    ⟨.faddr 1 (.t 3), some 39, none⟩,
    ⟨.load false 1 (.t 39), some 40, none⟩,
    ⟨.mv (.t 5), some 41, none⟩,
    ⟨.iaddr 37 (.t 40) (.t 41), some 42, none⟩,
    ⟨.load true 37 (.t 42), some 43, none⟩,
    ⟨.bin .neq (.flat [(.i .i64), (.i .i64), .b, .s, .b, .s, .b, .s, .b, .s, .b, .s, .b, .s, .b, .s, .b, .s, .b, .s, .b, .s, .b, .s, .b, .s, .b, .s, .b, .s, .b, .s, .b, .s, .b, (.i .i64), .b]) (.t 38) (.t 43), some 44, none⟩])
  (.keep [2, 3, 5, 44] (.cond (.t 44)
  (.seq (.reg false [] [⟨.mv (.c (.p (.b false))), some 4, none⟩])
    (.ret))
  (.skip)))))
  (.reg false [] [⟨.mv (.t 5), some 32, none⟩,
    ⟨.bin .add .plain (.t 32) (.c (.p (.i .i64 1))), some 33, none⟩,
    ⟨.mv (.t 33), some 5, none⟩]))
def J54 : Jn := .seq (.reg false [] [⟨.mv (.c (.p (.b true))), some 4, none⟩])
  (.ret)
def J3S : Jn := .seq (.reg false [] [⟨.box 3 (.t 0), some 2, none⟩,
    ⟨.box 3 (.t 1), some 3, none⟩,
    ⟨.mv (.c (.p (.b false))), some 4, none⟩])
  (.keep [2, 3] (.seq (.seq (.reg false [] [⟨.faddr 0 (.t 2), some 6, none⟩,
    ⟨.load false 1 (.t 6), some 7, none⟩,
    ⟨.faddr 0 (.t 3), some 8, none⟩,
    ⟨.load false 1 (.t 8), some 9, none⟩,
    ⟨.bin .neq .plain (.t 7) (.t 9), some 10, none⟩,
    ⟨.mv (.t 10), some 11, none⟩,
    ⟨.faddr 2 (.t 2), some 12, some (11, false)⟩,
    ⟨.load false 1 (.t 12), some 13, some (11, false)⟩,
    ⟨.faddr 2 (.t 3), some 14, some (11, false)⟩,
    ⟨.load false 1 (.t 14), some 15, some (11, false)⟩,
    ⟨.bin .neq .plain (.t 13) (.t 15), some 16, some (11, false)⟩,
    ⟨.pick (.t 11) (.c (.p (.b true))) (.t 16), some 17, none⟩,
    ⟨.mv (.t 17), some 18, none⟩,
    ⟨.faddr 1 (.t 2), some 19, some (18, false)⟩,
    ⟨.load false 1 (.t 19), some 20, some (18, false)⟩,
    ⟨.len false (.t 20), some 21, some (18, false)⟩,
    ⟨.faddr 1 (.t 3), some 22, some (18, false)⟩,
    ⟨.load false 1 (.t 22), some 23, some (18, false)⟩,
    ⟨.len false (.t 23), some 24, some (18, false)⟩,
    ⟨.bin .neq .plain (.t 21) (.t 24), some 25, some (18, false)⟩,
    ⟨.pick (.t 18) (.c (.p (.b true))) (.t 25), some 26, none⟩])
  (.keep [2, 3, 26] (.cond (.t 26)
  (.seq (.reg false [] [⟨.mv (.c (.p (.b false))), some 4, none⟩])
    (.ret))
  (.skip))))
  (.seq (.seq (.reg false [] [⟨.mv (.c (.p (.i .i64 0))), some 5, none⟩])
  (.block 0 (.loop [2, 3, 5] J2x)))
  (.keep [] J54))))
def J2Z : AFn := ⟨2, 45, J3S, [.tmp 4], false⟩
def J67 : Jn := .seq (.reg false [] [⟨.newbox (J3 default), some 2, none⟩,
    ⟨.mv (.c (.p (.i .i64 0))), some 3, none⟩])
  (.seq (.seq (.reg false [] [⟨.mv (.t 0), some 4, none⟩,
    ⟨.bin .lss .plain (.t 4) (.c (.p (.i .i64 1))), some 5, none⟩,
    ⟨.mv (.t 5), some 6, none⟩,
    ⟨.mv (.t 0), some 7, some (6, false)⟩,
    ⟨.bin .gtr .plain (.t 7) (.c (.p (.i .i64 64))), some 8, some (6, false)⟩,
    ⟨.pick (.t 6) (.c (.p (.b true))) (.t 8), some 9, none⟩])
  (.keep [0, 2, 9] (.cond (.t 9)
  (.seq (.reg false [] [⟨.build (J3 default) [], some 10, none⟩,
      ⟨.store 3 (.t 2) (.t 10), none, none⟩,
      ⟨.mv (.c (.p (.i .i64 1))), some 3, none⟩])
    (.ret))
  (.skip))))
  (.seq (.reg false [] [⟨.mv (.t 0), some 11, none⟩,
    ⟨.build (J3 default) [(0, 1, (.t 11))], some 12, none⟩,
    ⟨.store 3 (.t 2) (.t 12), none, none⟩,
    ⟨.mv (.c (.p (.i .i64 0))), some 3, none⟩])
  (.ret)))
def J8w : AFn := ⟨1, 13, J67, [.cell 2 true 3, .tmp 3], false⟩
def J2i : Jn := .seq (.reg false [] [⟨.mv (.c (.p (.i .i64 0))), some 2, none⟩])
  (.seq (.seq (.reg false [] [⟨.mv (.t 0), some 3, none⟩,
    ⟨.call Jd [(.t 3), (.c (.p (.i .i64 10)))] 0, some 4, none⟩])
  (.block 0 (.seq (.reg false [] [⟨.bin .eql .plain (.t 4) (.c (.p (.i .i64 0))), some 6, none⟩,
    ⟨.mv (.t 6), some 5, none⟩])
  (.cond (.t 5)
  (.seq (.reg false [] [⟨.mv (.t 0), some 7, none⟩,
      ⟨.call Jd [(.t 7), (.c (.p (.i .i64 3)))] 0, some 8, none⟩,
      ⟨.bin .sub .plain (.c (.p (.i .i64 (-1)))) (.t 8), some 9, none⟩,
      ⟨.mv (.t 9), some 2, none⟩])
    (.ret))
  (.seq (.reg false [] [⟨.bin .eql .plain (.t 4) (.c (.p (.i .i64 1))), some 11, none⟩,
      ⟨.mv (.t 11), some 10, none⟩])
    (.cond (.t 10)
    (.seq (.reg false [] [⟨.lits false 1 16 [(.i .i64 0)] [(0, (.c (.p (.i .i64 9223372036854775807)))), (1, (.c (.p (.i .i64 (-9223372036854775808))))), (2, (.c (.p (.i .i64 1099511627776)))), (3, (.c (.p (.i .i64 1099511627777)))), (4, (.c (.p (.i .i64 1073741824)))), (5, (.c (.p (.i .i64 1073741825)))), (6, (.c (.p (.i .i64 64)))), (7, (.c (.p (.i .i64 63)))), (8, (.c (.p (.i .i64 16)))), (9, (.c (.p (.i .i64 15)))), (10, (.c (.p (.i .i64 256)))), (11, (.c (.p (.i .i64 255)))), (12, (.c (.p (.i .i64 4294967296)))), (13, (.c (.p (.i .i64 65536)))), (14, (.c (.p (.i .i64 256)))), (15, (.c (.p (.i .i64 255))))], some 12, none⟩,
        ⟨.mv (.t 0), some 13, none⟩,
        ⟨.call Jd [(.t 13), (.c (.p (.i .i64 16)))] 0, some 14, none⟩,
        ⟨.iaddr 1 (.t 12) (.t 14), some 15, none⟩,
        ⟨.load false 1 (.t 15), some 16, none⟩,
        ⟨.mv (.t 16), some 2, none⟩])
      (.ret))
    (.skip)))))))
  (.seq (.reg false [] [⟨.mv (.t 0), some 17, none⟩,
    ⟨.call Jd [(.t 17), (.c (.p (.i .i64 20)))] 0, some 18, none⟩,
    ⟨.mv (.t 18), some 2, none⟩])
  (.ret)))
def J58 : AFn := ⟨1, 19, J2i, [.tmp 2], false⟩
def J3v : Jn := .seq (.reg false [] [⟨.newbox (Jm default), some 2, none⟩])
  (.seq (.seq (.reg false [] [⟨.mv (.t 0), some 4, none⟩,
    ⟨.call Jd [(.t 4), (.c (.p (.i .i64 3)))] 0, some 5, none⟩,
    ⟨.bin .eql .plain (.t 5) (.c (.p (.i .i64 0))), some 6, none⟩])
  (.keep [0, 2, 6] (.cond (.t 6)
  (.seq (.reg false [] [⟨.build (Jm default) [], some 7, none⟩,
      ⟨.store 2 (.t 2) (.t 7), none, none⟩])
    (.ret))
  (.skip))))
  (.seq (.reg false [] [⟨.mv (.t 0), some 8, none⟩,
    ⟨.call J2F [(.t 8)] 0, some 9, none⟩,
    ⟨.mv (.t 9), some 3, none⟩])
  (.keep [2, 3] (.seq (.reg false [] [⟨.mv (.t 3), some 10, none⟩,
    ⟨.mv (.t 3), some 11, none⟩,
    ⟨.len true (.t 11), some 12, none⟩,
    ⟨.mm false (.t 12) (.c (.p (.i .i64 12))), some 13, none⟩,
    ⟨.slice .str (.t 10) none (some (.t 13)) none, some 14, none⟩,
    ⟨.build (Jm default) [(0, 1, (.c (.p (.b true)))), (1, 1, (.t 14))], some 15, none⟩,
    ⟨.store 2 (.t 2) (.t 15), none, none⟩])
  (.ret)))))
def J4D : AFn := ⟨1, 16, J3v, [.cell 2 true 2], false⟩
def J0B : Jn := .seq (.reg false [] [⟨.bin .lss .plain (.t 7) (.c (.p (.i .i64 16))), some 8, none⟩])
  (.seq (.cond (.t 8)
  (.skip)
  (.exit 0))
  (.seq (.block 1 (.seq (.reg false [] [⟨.aidx true 16 2 (.t 6) (.t 7), some 9, none⟩,
    ⟨.newbox (Jm default), some 4, none⟩,
    ⟨.store 2 (.t 4) (.t 9), none, none⟩])
  (.keep [1, 4, 6, 7] (.seq (.reg false [] [⟨.faddr 1 (.t 4), some 10, none⟩,
    ⟨.load false 1 (.t 10), some 11, none⟩,
    ⟨.len true (.t 11), some 12, none⟩,
    ⟨.bin .gtr .plain (.t 12) (.c (.p (.i .i64 12))), some 13, none⟩,
    ⟨.mv (.t 13), some 14, none⟩,
    ⟨.faddr 0 (.t 4), some 15, some (14, false)⟩,
    ⟨.load false 1 (.t 15), some 16, some (14, false)⟩,
    ⟨.un .not (.t 16), some 17, some (14, false)⟩,
    ⟨.mv (.t 17), some 18, some (14, false)⟩,
    ⟨.faddr 1 (.t 4), some 19, some (18, true)⟩,
    ⟨.load false 1 (.t 19), some 20, some (18, true)⟩,
    ⟨.bin .neq .plain (.t 20) (.c (.p (.s []))), some 21, some (18, true)⟩,
    ⟨.pick (.t 18) (.t 21) (.c (.p (.b false))), some 22, some (14, false)⟩,
    ⟨.pick (.t 14) (.c (.p (.b true))) (.t 22), some 23, none⟩,
    ⟨.mv (.t 23), some 24, none⟩,
    ⟨.faddr 0 (.t 4), some 25, some (24, false)⟩,
    ⟨.load false 1 (.t 25), some 26, some (24, false)⟩,
    ⟨.mv (.t 26), some 27, some (24, false)⟩,
    ⟨.faddr 1 (.t 1), some 28, some (27, true)⟩,
    ⟨.load false 1 (.t 28), some 29, some (27, true)⟩,
    ⟨.bin .eql .plain (.t 29) (.c (.p (.i .i64 0))), some 30, some (27, true)⟩,
    ⟨.pick (.t 27) (.t 30) (.c (.p (.b false))), some 31, some (24, false)⟩,
    ⟨.pick (.t 24) (.c (.p (.b true))) (.t 31), some 32, none⟩])
  (.keep [1, 6, 7, 32] (.cond (.t 32)
  (.seq (.reg false [] [⟨.mv (.c (.p (.b false))), some 2, none⟩])
    (.ret))
  (.skip)))))))
  (.reg false [] [⟨.bin .add .plain (.t 7) (.c (.p (.i .i64 1))), some 33, none⟩,
    ⟨.mv (.t 33), some 7, none⟩])))
def J57 : Jn := .seq (.reg false [] [⟨.mv (.c (.p (.b true))), some 2, none⟩])
  (.ret)
def J92 : Jn := .seq (.reg false [] [⟨.box 34 (.t 0), some 1, none⟩,
    ⟨.mv (.c (.p (.b false))), some 2, none⟩])
  (.seq (.tidy [2] (.seq (.reg false [] [⟨.faddr 2 (.t 1), some 5, none⟩,
    ⟨.load true 32 (.t 5), some 6, none⟩,
    ⟨.mv (.c (.p (.i .i64 0))), some 7, none⟩])
  (.keep [1, 6, 7] (.block 0 (.loop [1, 6, 7] J0B)))))
  (.keep [] J57))
def J39 : AFn := ⟨1, 34, J92, [.tmp 2], false⟩
def J7D : Jn := .seq (.reg false [] [⟨.box 37 (.t 0), some 2, none⟩,
    ⟨.mv (.c (.p (.b false))), some 3, none⟩])
  (.seq (.reg false [] [⟨.faddr 0 (.t 2), some 4, none⟩,
    ⟨.faddr 0 (.t 4), some 5, none⟩,
    ⟨.load false 1 (.t 5), some 6, none⟩,
    ⟨.load false 1 (.t 1), some 7, none⟩,
    ⟨.bin .eql .plain (.t 6) (.t 7), some 8, none⟩,
    ⟨.mv (.t 8), some 3, none⟩])
  (.ret))
def J6d : AFn := ⟨2, 9, J7D, [.tmp 3], false⟩
def JK : Jn := .seq (.reg false [] [⟨.bin .lss .plain (.t 8) (.t 7), some 9, none⟩])
  (.seq (.cond (.t 9)
  (.skip)
  (.exit 0))
  (.seq (.block 1 (.seq (.reg false [] [⟨.mv (.t 8), some 10, none⟩,
    ⟨.mv (.t 10), some 5, none⟩])
  (.seq (.reg false [] [⟨.mv (.t 1), some 11, none⟩,
    ⟨.mv (.t 0), some 12, none⟩,
    ⟨.mv (.t 5), some 13, none⟩,
    ⟨.iaddr 37 (.t 12) (.t 13), some 14, none⟩,
    ⟨.load true 37 (.t 14), some 15, none⟩,
    ⟨.callv (.t 11) [(.t 15)] 0, some 16, none⟩])
  (.keep [0, 1, 5, 7, 8, 16] (.cond (.t 16)
  (.seq (.reg false [] [⟨.mv (.t 5), some 17, none⟩,
      ⟨.mv (.t 17), some 4, none⟩])
    (.ret))
  (.skip))))))
  (.reg false [] [⟨.bin .add .plain (.t 8) (.c (.p (.i .i64 1))), some 18, none⟩,
    ⟨.mv (.t 18), some 8, none⟩])))
def J04 : Jn := .seq (.reg false [] [⟨.mv (.c (.p (.i .i64 (-1)))), some 4, none⟩])
  (.ret)
def J0I : Jn := .seq (.reg false [] [⟨.mv (.c (.p (.i .i64 0))), some 4, none⟩])
  (.seq (.seq (.reg false [] [⟨.mv (.t 0), some 6, none⟩,
    ⟨.len false (.t 6), some 7, none⟩,
    ⟨.mv (.c (.p (.i .i64 0))), some 8, none⟩])
  (.keep [0, 1, 7, 8] (.block 0 (.loop [0, 1, 7, 8] JK))))
  (.keep [] J04))
def JF : AFn := ⟨2, 19, J0I, [.tmp 4], false⟩
def Ja0 : Jn := .seq (.reg false [] [⟨.box 3 (.t 0), some 2, none⟩,
    ⟨.box 1 (.t 1), some 3, none⟩,
    ⟨.mv (.c (.p (.i .i64 0))), some 4, none⟩])
  (.keep [2, 3] (.seq (.reg false [] [⟨.faddr 1 (.t 2), some 5, none⟩,
    ⟨.load false 1 (.t 5), some 6, none⟩,
    ⟨.mkfn J13 [] [(.t 3)], some 7, none⟩,
    ⟨.call J0l [(.t 6), (.t 7)] 0, some 8, none⟩,
    ⟨.mv (.t 8), some 4, none⟩])
  (.ret)))
def J8y : AFn := ⟨2, 9, Ja0, [.tmp 4], false⟩
def J1i : Jn := .seq (.reg false [] [⟨.mv (.c (.p (.sl 37 []))), some 2, none⟩])
  (.seq (.reg false [] [⟨.mv (.t 0), some 3, none⟩,
    ⟨.mv (.t 0), some 4, none⟩,
    ⟨.len false (.t 4), some 5, none⟩,
    ⟨.mv (.t 0), some 6, none⟩,
    ⟨.len false (.t 6), some 7, none⟩,
    ⟨.slice (.sl 37) (.t 3) none (some (.t 5)) (some (.t 7)), some 8, none⟩,
    ⟨.mv (.t 8), some 2, none⟩])
  (.ret))
def J0G : AFn := ⟨1, 9, J1i, [.tmp 2], false⟩
def J1e : JaN := ⟨1, 8, .reg false [] [⟨.mkarr 37 (.c (.p (.sl 37 []))), some 2, none⟩], [], .reg false [] [⟨.mv (.t 0), some 3, none⟩,
    ⟨.bin .eql .nils (.t 3) (.c (.p (.sl 37 []))), some 4, none⟩], (.t 4),
  .seq (.reg false [] [⟨.mkarr 37 (.c (.p (.sl 37 []))), some 2, none⟩])
  (.ret),
  .skip,
  .seq (.reg false [] [⟨.lits true 37 0 (J7 default) [], some 5, none⟩,
    ⟨.mv (.t 0), some 6, none⟩,
    ⟨.app 37 424 (J7 default) (.t 5) (.t 6), some 7, none⟩,
    ⟨.mv (.t 7), some 2, none⟩])
  (.ret), [.tmp 2], true⟩
def J2c : Jn := .seq (.reg false [] [⟨.box 34 (.t 0), some 1, none⟩,
    ⟨.mv (.c (.p (.b false))), some 2, none⟩])
  (.seq (.reg false [] [⟨.faddr 0 (.t 1), some 3, none⟩,
    ⟨.load false 1 (.t 3), some 4, none⟩,
    ⟨.bin .geq .plain (.t 4) (.c (.p (.i .i64 0))), some 5, none⟩,
    ⟨.mv (.t 5), some 6, none⟩,
    ⟨.faddr 0 (.t 1), some 7, some (6, true)⟩,
    ⟨.load false 1 (.t 7), some 8, some (6, true)⟩,
    ⟨.bin .lss .plain (.t 8) (.c (.p (.i .i64 64))), some 9, some (6, true)⟩,
    ⟨.pick (.t 6) (.t 9) (.c (.p (.b false))), some 10, none⟩,
    ⟨.mv (.t 10), some 11, none⟩,
    ⟨.faddr 1 (.t 1), some 12, some (11, true)⟩,
    ⟨.load false 1 (.t 12), some 13, some (11, true)⟩,
    ⟨.bin .geq .plain (.t 13) (.c (.p (.i .i64 0))), some 14, some (11, true)⟩,
    ⟨.pick (.t 11) (.t 14) (.c (.p (.b false))), some 15, none⟩,
    ⟨.mv (.t 15), some 16, none⟩,
    ⟨.faddr 1 (.t 1), some 17, some (16, true)⟩,
    ⟨.load false 1 (.t 17), some 18, some (16, true)⟩,
    ⟨.bin .leq .plain (.t 18) (.c (.p (.i .i64 1099511627776))), some 19, some (16, true)⟩,
    ⟨.pick (.t 16) (.t 19) (.c (.p (.b false))), some 20, none⟩,
    ⟨.mv (.t 20), some 2, none⟩])
  (.ret))
def J5x : AFn := ⟨1, 21, J2c, [.tmp 2], false⟩
def J2B : Jn := .seq (.seq (.reg false [] [⟨.mv (.t 5), some 6, none⟩,
    ⟨.faddr 1 (.t 2), some 7, none⟩,
    ⟨.load false 1 (.t 7), some 8, none⟩,
    ⟨.len false (.t 8), some 9, none⟩,
    ⟨.bin .lss .plain (.t 6) (.t 9), some 10, none⟩])
  (.keep [1, 2, 5, 10] (.cond (.t 10)
  (.skip)
  (.exit 0))))
  (.seq (.block 1 (.seq (.reg false [] [⟨.faddr 1 (.t 2), some 13, none⟩,
    ⟨.load false 1 (.t 13), some 14, none⟩,
    ⟨.mv (.t 5), some 15, none⟩,
    ⟨.iaddr 37 (.t 14) (.t 15), some 16, none⟩,
    ⟨.faddr 0 (.t 16), some 17, none⟩,
    ⟨.faddr 0 (.t 17), some 18, none⟩,
    ⟨.load false 1 (.t 18), some 19, none⟩,
    ⟨.mv (.t 1), some 20, none⟩,
    ⟨.bin .eql .plain (.t 19) (.t 20), some 21, none⟩])
  (.keep [1, 2, 5, 21] (.cond (.t 21)
  (.seq (.reg false [] [⟨.mv (.t 5), some 22, none⟩,
      ⟨.mv (.t 22), some 4, none⟩])
    (.ret))
  (.skip)))))
  (.reg false [] [⟨.mv (.t 5), some 11, none⟩,
    ⟨.bin .add .plain (.t 11) (.c (.p (.i .i64 1))), some 12, none⟩,
    ⟨.mv (.t 12), some 5, none⟩]))
def J5c : Jn := .seq (.reg false [] [⟨.mv (.c (.p (.i .i64 (-1)))), some 4, none⟩])
  (.ret)
def J9g : Jn := .seq (.reg false [] [⟨.box 3 (.t 0), some 2, none⟩,
    ⟨.mv (.c (.p (.i .i64 0))), some 4, none⟩])
  (.seq (.seq (.reg false [] [⟨.mv (.c (.p (.i .i64 0))), some 5, none⟩])
  (.block 0 (.loop [1, 2, 5] J2B)))
  (.keep [] J5c))
def J37 : AFn := ⟨2, 23, J9g, [.tmp 4], false⟩
def Ja5 : Jn := .seq (.reg false [] [⟨.box 3 (.t 0), some 3, none⟩,
    ⟨.box 37 (.t 2), some 5, none⟩,
    ⟨.newbox (J3 default), some 6, none⟩])
  (.keep [1, 3, 5, 6] (.seq (.reg false [] [⟨.faddr 1 (.t 3), some 7, none⟩,
    ⟨.load false 1 (.t 7), some 8, none⟩,
    ⟨.appn 37 424 (J7 default) (.t 8), some 9, none⟩,
    ⟨.faddr 1 (.t 3), some 10, none⟩,
    ⟨.store 1 (.t 10) (.t 9), none, none⟩])
  (.keep [1, 3, 5, 6] (.seq (.reg false [] [⟨.faddr 1 (.t 3), some 11, none⟩,
    ⟨.load false 1 (.t 11), some 12, none⟩,
    ⟨.mv (.t 1), some 13, none⟩,
    ⟨.load true 37 (.t 5), some 14, none⟩,
    ⟨.iaddr 37 (.t 12) (.t 13), some 15, none⟩,
    ⟨.store 37 (.t 15) (.t 14), none, none⟩])
  (.keep [3, 6] (.seq (.reg false [] [⟨.load true 3 (.t 3), some 16, none⟩,
    ⟨.store 3 (.t 6) (.t 16), none, none⟩])
  (.ret)))))))
def J8s : AFn := ⟨3, 17, Ja5, [.cell 6 true 3], false⟩
def J7x : Jn := .seq (.reg false [] [⟨.mv (.c (.p (.b false))), some 2, none⟩])
  (.seq (.reg false [] [⟨.mv (.t 0), some 3, none⟩,
    ⟨.bin .geq .plain (.t 3) (.c (.p (.i .i64 0))), some 4, none⟩,
    ⟨.mv (.t 4), some 5, none⟩,
    ⟨.mv (.t 0), some 6, some (5, true)⟩,
    ⟨.bin .lss .plain (.t 6) (.c (.p (.i .i64 64))), some 7, some (5, true)⟩,
    ⟨.pick (.t 5) (.t 7) (.c (.p (.b false))), some 8, none⟩,
    ⟨.mv (.t 8), some 2, none⟩])
  (.ret))
def J7A : AFn := ⟨1, 9, J7x, [.tmp 2], false⟩
def J0X : Jn := .seq (.reg false [] [⟨.bin .lss .plain (.t 9) (.c (.p (.i .i64 4))), some 10, none⟩])
  (.seq (.cond (.t 10)
  (.skip)
  (.exit 2))
  (.seq (.block 3 (.seq (.reg false [] [⟨.mv (.t 3), some 11, none⟩,
    ⟨.bin .and .plain (.t 11) (.c (.p (.i .u32 1))), some 12, none⟩,
    ⟨.bin .eql .plain (.t 12) (.c (.p (.i .u32 1))), some 13, none⟩])
  (.keep [0, 1, 2, 3, 4, 9, 13] (.cond (.t 13)
  (.reg false [] [⟨.mv (.t 3), some 14, none⟩,
      ⟨.bin .shr .plain (.t 14) (.c (.p (.i .u64 1))), some 15, none⟩,
      ⟨.bin .xor .plain (.t 15) (.c (.p (.i .u32 2197175160))), some 16, none⟩,
      ⟨.mv (.t 16), some 3, none⟩])
  (.reg false [] [⟨.mv (.t 3), some 17, none⟩,
      ⟨.bin .shr .plain (.t 17) (.c (.p (.i .u64 1))), some 18, none⟩,
      ⟨.mv (.t 18), some 3, none⟩])))))
  (.reg false [] [⟨.bin .add .plain (.t 9) (.c (.p (.i .i64 1))), some 19, none⟩,
    ⟨.mv (.t 19), some 9, none⟩])))
def J2l : Jn := .reg false [] [⟨.mv (.t 2), some 20, none⟩,
    ⟨.mv (.t 3), some 21, none⟩,
    ⟨.aaddr 16 1 (.t 1) (.t 20), some 22, none⟩,
    ⟨.store 1 (.t 22) (.t 21), none, none⟩]
def J1F : Jn := .reg false [] [⟨.bin .add .plain (.t 4) (.c (.p (.i .i64 1))), some 23, none⟩,
    ⟨.mv (.t 23), some 4, none⟩]
def J0b : Jn := .seq (.reg false [] [⟨.bin .lss .plain (.t 4) (.c (.p (.i .i64 16))), some 5, none⟩])
  (.seq (.cond (.t 5)
  (.skip)
  (.exit 0))
  (.seq (.block 1 (.seq (.reg false [] [⟨.mv (.t 4), some 6, none⟩,
    ⟨.mv (.t 6), some 2, none⟩])
  (.seq (.reg false [] [⟨.mv (.t 2), some 7, none⟩,
    ⟨.conv (.int .u32) (.t 7), some 8, none⟩,
    ⟨.mv (.t 8), some 3, none⟩])
  (.keep [0, 1, 2, 3, 4] (.seq (.seq (.reg false [] [⟨.mv (.c (.p (.i .i64 0))), some 9, none⟩])
  (.block 2 (.loop [0, 1, 2, 3, 4, 9] J0X)))
  (.keep [0, 1, 2, 3, 4] J2l))))))
  (.keep [0, 1, 4] J1F)))
def J0g : Jn := .seq (.reg false [] [⟨.load true 16 (.t 1), some 24, none⟩,
    ⟨.store 16 (.t 0) (.t 24), none, none⟩])
  (.ret)
def J5v : Jn := .seq (.reg false [] [⟨.newbox (J06 (r_i .u32) (Vector.replicate 16 (0 : Int))), some 0, none⟩])
  (.seq (.reg false [] [⟨.newbox (J06 (r_i .u32) (Vector.replicate 16 (0 : Int))), some 1, none⟩])
  (.seq (.seq (.reg false [] [⟨.mv (.c (.p (.i .i64 0))), some 4, none⟩])
  (.block 0 (.loop [0, 1, 4] J0b)))
  (.keep [0, 1] J0g)))
def J01 : AFn := ⟨0, 25, J5v, [.cell 0 true 16], false⟩
def JaK : Jn := .seq (.reg false [] [⟨.mv (.c (.p (.b false))), some 2, none⟩])
  (.seq (.reg false [] [⟨.mv (.t 0), some 3, none⟩,
    ⟨.mv (.t 0), some 4, none⟩,
    ⟨.bin .neq .plain (.t 3) (.t 4), some 5, none⟩,
    ⟨.mv (.t 5), some 2, none⟩])
  (.ret))
def Jdt : AFn := ⟨1, 6, JaK, [.tmp 2], false⟩
def J2C : Jn := .seq (.reg false [] [⟨.box 2 (.t 0), some 1, none⟩,
    ⟨.mv (.c (.p (.b false))), some 2, none⟩])
  (.seq (.reg false [] [⟨.faddr 1 (.t 1), some 3, none⟩,
    ⟨.load false 1 (.t 3), some 4, none⟩,
    ⟨.len true (.t 4), some 5, none⟩,
    ⟨.bin .leq .plain (.t 5) (.c (.p (.i .i64 12))), some 6, none⟩,
    ⟨.mv (.t 6), some 7, none⟩,
    ⟨.faddr 0 (.t 1), some 8, some (7, true)⟩,
    ⟨.load false 1 (.t 8), some 9, some (7, true)⟩,
    ⟨.mv (.t 9), some 10, some (7, true)⟩,
    ⟨.faddr 1 (.t 1), some 11, some (10, false)⟩,
    ⟨.load false 1 (.t 11), some 12, some (10, false)⟩,
    ⟨.bin .eql .plain (.t 12) (.c (.p (.s []))), some 13, some (10, false)⟩,
    ⟨.pick (.t 10) (.c (.p (.b true))) (.t 13), some 14, some (7, true)⟩,
    ⟨.pick (.t 7) (.t 14) (.c (.p (.b false))), some 15, none⟩,
    ⟨.mv (.t 15), some 2, none⟩])
  (.ret))
def J4J : AFn := ⟨1, 16, J2C, [.tmp 2], false⟩
def JfH : Jn := .seq (.reg false [] [⟨.mv (.t 2), some 13, none⟩,
    ⟨.mv (.t 0), some 14, none⟩,
    ⟨.conv (.int .u8) (.t 14), some 15, none⟩,
    ⟨.sidx (.c (.p (.s [0, 1, 2, 2, 3, 3, 3, 3, 4, 4, 4, 4, 4, 4, 4, 4, 5, 5, 5, 5, 5, 5, 5, 5, 5, 5, 5, 5, 5, 5, 5, 5, 6, 6, 6, 6, 6, 6, 6, 6, 6, 6, 6, 6, 6, 6, 6, 6, 6, 6, 6, 6, 6, 6, 6, 6, 6, 6, 6, 6, 6, 6, 6, 6, 7, 7, 7, 7, 7, 7, 7, 7, 7, 7, 7, 7, 7, 7, 7, 7, 7, 7, 7, 7, 7, 7, 7, 7, 7, 7, 7, 7, 7, 7, 7, 7, 7, 7, 7, 7, 7, 7, 7, 7, 7, 7, 7, 7, 7, 7, 7, 7, 7, 7, 7, 7, 7, 7, 7, 7, 7, 7, 7, 7, 7, 7, 7, 7, 8, 8, 8, 8, 8, 8, 8, 8, 8, 8, 8, 8, 8, 8, 8, 8, 8, 8, 8, 8, 8, 8, 8, 8, 8, 8, 8, 8, 8, 8, 8, 8, 8, 8, 8, 8, 8, 8, 8, 8, 8, 8, 8, 8, 8, 8, 8, 8, 8, 8, 8, 8, 8, 8, 8, 8, 8, 8, 8, 8, 8, 8, 8, 8, 8, 8, 8, 8, 8, 8, 8, 8, 8, 8, 8, 8, 8, 8, 8, 8, 8, 8, 8, 8, 8, 8, 8, 8, 8, 8, 8, 8, 8, 8, 8, 8, 8, 8, 8, 8, 8, 8, 8, 8, 8, 8, 8, 8, 8, 8, 8, 8, 8, 8, 8, 8, 8, 8, 8, 8, 8, 8, 8, 8, 8, 8, 8, 8]))) (.t 15), some 16, none⟩,
    ⟨.conv (.int .i64) (.t 16), some 17, none⟩,
    ⟨.bin .add .plain (.t 13) (.t 17), some 18, none⟩,
    ⟨.mv (.t 18), some 2, none⟩])
  (.ret)
def JfP : Jn := .seq (.seq (.reg false [] [⟨.mv (.t 0), some 7, none⟩,
    ⟨.bin .geq .plain (.t 7) (.c (.p (.i .u32 256))), some 8, none⟩])
  (.cond (.t 8)
  (.seq (.reg false [] [⟨.mv (.t 0), some 9, none⟩,
      ⟨.bin .shr .plain (.t 9) (.c (.p (.i .u64 8))), some 10, none⟩,
      ⟨.mv (.t 10), some 0, none⟩])
    (.keep [0, 2] (.reg false [] [⟨.mv (.t 2), some 11, none⟩,
      ⟨.bin .add .plain (.t 11) (.c (.p (.i .i64 8))), some 12, none⟩,
      ⟨.mv (.t 12), some 2, none⟩])))
  (.skip)))
  (.keep [0, 2] JfH)
def J9P : Jn := .seq (.reg false [] [⟨.mv (.c (.p (.i .i64 0))), some 2, none⟩])
  (.seq (.seq (.reg false [] [⟨.mv (.t 0), some 3, none⟩,
    ⟨.bin .geq .plain (.t 3) (.c (.p (.i .u32 65536))), some 4, none⟩])
  (.cond (.t 4)
  (.seq (.reg false [] [⟨.mv (.t 0), some 5, none⟩,
      ⟨.bin .shr .plain (.t 5) (.c (.p (.i .u64 16))), some 6, none⟩,
      ⟨.mv (.t 6), some 0, none⟩])
    (.keep [0] (.reg false [] [⟨.mv (.c (.p (.i .i64 16))), some 2, none⟩])))
  (.skip)))
  (.keep [0, 2] JfP))
def Jc3 : AFn := ⟨1, 19, J9P, [.tmp 2], false⟩
def JfD : Jn := .seq (.reg false [] [⟨.mv (.t 2), some 19, none⟩,
    ⟨.mv (.t 0), some 20, none⟩,
    ⟨.conv (.int .u8) (.t 20), some 21, none⟩,
    ⟨.sidx (.c (.p (.s [0, 1, 2, 2, 3, 3, 3, 3, 4, 4, 4, 4, 4, 4, 4, 4, 5, 5, 5, 5, 5, 5, 5, 5, 5, 5, 5, 5, 5, 5, 5, 5, 6, 6, 6, 6, 6, 6, 6, 6, 6, 6, 6, 6, 6, 6, 6, 6, 6, 6, 6, 6, 6, 6, 6, 6, 6, 6, 6, 6, 6, 6, 6, 6, 7, 7, 7, 7, 7, 7, 7, 7, 7, 7, 7, 7, 7, 7, 7, 7, 7, 7, 7, 7, 7, 7, 7, 7, 7, 7, 7, 7, 7, 7, 7, 7, 7, 7, 7, 7, 7, 7, 7, 7, 7, 7, 7, 7, 7, 7, 7, 7, 7, 7, 7, 7, 7, 7, 7, 7, 7, 7, 7, 7, 7, 7, 7, 7, 8, 8, 8, 8, 8, 8, 8, 8, 8, 8, 8, 8, 8, 8, 8, 8, 8, 8, 8, 8, 8, 8, 8, 8, 8, 8, 8, 8, 8, 8, 8, 8, 8, 8, 8, 8, 8, 8, 8, 8, 8, 8, 8, 8, 8, 8, 8, 8, 8, 8, 8, 8, 8, 8, 8, 8, 8, 8, 8, 8, 8, 8, 8, 8, 8, 8, 8, 8, 8, 8, 8, 8, 8, 8, 8, 8, 8, 8, 8, 8, 8, 8, 8, 8, 8, 8, 8, 8, 8, 8, 8, 8, 8, 8, 8, 8, 8, 8, 8, 8, 8, 8, 8, 8, 8, 8, 8, 8, 8, 8, 8, 8, 8, 8, 8, 8, 8, 8, 8, 8, 8, 8, 8, 8, 8, 8, 8, 8]))) (.t 21), some 22, none⟩,
    ⟨.conv (.int .i64) (.t 22), some 23, none⟩,
    ⟨.bin .add .plain (.t 19) (.t 23), some 24, none⟩,
    ⟨.mv (.t 24), some 2, none⟩])
  (.ret)
def JfW : Jn := .seq (.seq (.reg false [] [⟨.mv (.t 0), some 13, none⟩,
    ⟨.bin .geq .plain (.t 13) (.c (.p (.i .u64 256))), some 14, none⟩])
  (.cond (.t 14)
  (.seq (.reg false [] [⟨.mv (.t 0), some 15, none⟩,
      ⟨.bin .shr .plain (.t 15) (.c (.p (.i .u64 8))), some 16, none⟩,
      ⟨.mv (.t 16), some 0, none⟩])
    (.keep [0, 2] (.reg false [] [⟨.mv (.t 2), some 17, none⟩,
      ⟨.bin .add .plain (.t 17) (.c (.p (.i .i64 8))), some 18, none⟩,
      ⟨.mv (.t 18), some 2, none⟩])))
  (.skip)))
  (.keep [0, 2] JfD)
def JfF : Jn := .seq (.seq (.reg false [] [⟨.mv (.t 0), some 7, none⟩,
    ⟨.bin .geq .plain (.t 7) (.c (.p (.i .u64 65536))), some 8, none⟩])
  (.cond (.t 8)
  (.seq (.reg false [] [⟨.mv (.t 0), some 9, none⟩,
      ⟨.bin .shr .plain (.t 9) (.c (.p (.i .u64 16))), some 10, none⟩,
      ⟨.mv (.t 10), some 0, none⟩])
    (.keep [0, 2] (.reg false [] [⟨.mv (.t 2), some 11, none⟩,
      ⟨.bin .add .plain (.t 11) (.c (.p (.i .i64 16))), some 12, none⟩,
      ⟨.mv (.t 12), some 2, none⟩])))
  (.skip)))
  (.keep [0, 2] JfW)
def J9N : Jn := .seq (.reg false [] [⟨.mv (.c (.p (.i .i64 0))), some 2, none⟩])
  (.seq (.seq (.reg false [] [⟨.mv (.t 0), some 3, none⟩,
    ⟨.bin .geq .plain (.t 3) (.c (.p (.i .u64 4294967296))), some 4, none⟩])
  (.cond (.t 4)
  (.seq (.reg false [] [⟨.mv (.t 0), some 5, none⟩,
      ⟨.bin .shr .plain (.t 5) (.c (.p (.i .u64 32))), some 6, none⟩,
      ⟨.mv (.t 6), some 0, none⟩])
    (.keep [0] (.reg false [] [⟨.mv (.c (.p (.i .i64 32))), some 2, none⟩])))
  (.skip)))
  (.keep [0, 2] JfF))
def Jc9 : AFn := ⟨1, 25, J9N, [.tmp 2], false⟩
def J7i : Jn := .seq (.reg false [] [⟨.mv (.c (.p (.i .u64 0))), some 2, none⟩])
  (.seq (.reg true [] [⟨.mv (.t 0), some 3, none⟩,
    ⟨.nilchk (.t 3), some 4, none⟩,
    ⟨.load false 1 (.t 4), some 5, none⟩,
    ⟨.mv (.t 0), some 6, none⟩,
    ⟨.nilchk (.t 6), some 7, none⟩,
    ⟨.load false 1 (.t 7), some 8, none⟩,
    ⟨.bin .shl .plain (.t 8) (.c (.p (.i .u64 13))), some 9, none⟩,
    ⟨.bin .xor .plain (.t 5) (.t 9), some 10, none⟩,
    ⟨.nilchk (.t 3), some 11, none⟩,
    ⟨.store 1 (.t 11) (.t 10), none, none⟩])
  (.keep [0] (.seq (.reg true [] [⟨.mv (.t 0), some 12, none⟩,
    ⟨.nilchk (.t 12), some 13, none⟩,
    ⟨.load false 1 (.t 13), some 14, none⟩,
    ⟨.mv (.t 0), some 15, none⟩,
    ⟨.nilchk (.t 15), some 16, none⟩,
    ⟨.load false 1 (.t 16), some 17, none⟩,
    ⟨.bin .shr .plain (.t 17) (.c (.p (.i .u64 7))), some 18, none⟩,
    ⟨.bin .xor .plain (.t 14) (.t 18), some 19, none⟩,
    ⟨.nilchk (.t 12), some 20, none⟩,
    ⟨.store 1 (.t 20) (.t 19), none, none⟩])
  (.keep [0] (.seq (.reg true [] [⟨.mv (.t 0), some 21, none⟩,
    ⟨.nilchk (.t 21), some 22, none⟩,
    ⟨.load false 1 (.t 22), some 23, none⟩,
    ⟨.mv (.t 0), some 24, none⟩,
    ⟨.nilchk (.t 24), some 25, none⟩,
    ⟨.load false 1 (.t 25), some 26, none⟩,
    ⟨.bin .shl .plain (.t 26) (.c (.p (.i .u64 17))), some 27, none⟩,
    ⟨.bin .xor .plain (.t 23) (.t 27), some 28, none⟩,
    ⟨.nilchk (.t 21), some 29, none⟩,
    ⟨.store 1 (.t 29) (.t 28), none, none⟩])
  (.keep [0] (.seq (.reg false [] [⟨.mv (.t 0), some 30, none⟩,
    ⟨.nilchk (.t 30), some 31, none⟩,
    ⟨.load false 1 (.t 31), some 32, none⟩,
    ⟨.mv (.t 32), some 2, none⟩])
  (.ret))))))))
def J9W : AFn := ⟨1, 33, J7i, [.tmp 2], false⟩
def J1W : Jn := .seq (.seq (.reg false [] [⟨.mv (.t 6), some 23, none⟩,
    ⟨.bin .gtr .plain (.t 23) (.c (.p (.i .i64 0))), some 24, none⟩])
  (.cond (.t 24)
  (.skip)
  (.exit 0)))
  (.seq (.block 1 (.reg false [] [⟨.mv (.t 0), some 27, none⟩,
    ⟨.call Jd [(.t 27), (.c (.p (.i .i64 16)))] 0, some 28, none⟩,
    ⟨.mv (.t 0), some 29, none⟩,
    ⟨.call J2E [(.t 29)] 0, some 30, none⟩,
    ⟨.faddr 2 (.t 5), some 31, none⟩,
    ⟨.aaddr 16 2 (.t 31) (.t 28), some 32, none⟩,
    ⟨.store 2 (.t 32) (.t 30), none, none⟩]))
  (.reg false [] [⟨.mv (.t 6), some 25, none⟩,
    ⟨.bin .sub .plain (.t 25) (.c (.p (.i .i64 1))), some 26, none⟩,
    ⟨.mv (.t 26), some 6, none⟩]))
def J2G : Jn := .seq (.reg false [] [⟨.load true 34 (.t 5), some 33, none⟩,
    ⟨.store 34 (.t 4) (.t 33), none, none⟩])
  (.ret)
def J6s : Jn := .seq (.seq (.reg false [] [⟨.faddr 1 (.t 5), some 18, none⟩,
    ⟨.load false 1 (.t 18), some 19, none⟩,
    ⟨.bin .gtr .plain (.t 19) (.c (.p (.i .i64 0))), some 20, none⟩])
  (.keep [0, 4, 5, 20] (.cond (.t 20)
  (.seq (.reg false [] [⟨.mv (.t 0), some 21, none⟩,
      ⟨.call Jd [(.t 21), (.c (.p (.i .i64 6)))] 0, some 22, none⟩,
      ⟨.mv (.t 22), some 6, none⟩])
    (.keep [0, 4, 5, 6] (.block 0 (.loop [0, 4, 5, 6] J1W))))
  (.skip))))
  (.keep [4, 5] J2G)
def J3u : Jn := .seq (.reg false [] [⟨.newbox (J9 default), some 4, none⟩])
  (.seq (.reg false [] [⟨.mv (.t 1), some 7, none⟩,
    ⟨.mv (.t 0), some 8, none⟩,
    ⟨.call Jd [(.t 8), (.c (.p (.i .i64 50)))] 0, some 9, none⟩,
    ⟨.build (J9 default) [(0, 1, (.t 7)), (1, 1, (.t 9))], some 10, none⟩,
    ⟨.newbox (J9 default), some 5, none⟩,
    ⟨.store 34 (.t 5) (.t 10), none, none⟩])
  (.keep [0, 4, 5] (.seq (.seq (.reg false [] [⟨.mv (.t 0), some 11, none⟩,
    ⟨.call Jd [(.t 11), (.c (.p (.i .i64 10)))] 0, some 12, none⟩,
    ⟨.bin .eql .plain (.t 12) (.c (.p (.i .i64 9))), some 13, none⟩])
  (.keep [0, 4, 5, 13] (.cond (.t 13)
  (.reg false [] [⟨.mv (.t 0), some 14, none⟩,
      ⟨.call Jd [(.t 14), (.c (.p (.i .i64 2)))] 0, some 15, none⟩,
      ⟨.bin .sub .plain (.c (.p (.i .i64 1099511627776))) (.t 15), some 16, none⟩,
      ⟨.faddr 1 (.t 5), some 17, none⟩,
      ⟨.store 1 (.t 17) (.t 16), none, none⟩])
  (.skip))))
  (.keep [0, 4, 5] J6s))))
def J0U : AFn := ⟨2, 34, J3u, [.cell 4 true 34], false⟩
def J0i : Jn := .seq (.reg false [] [⟨.box 34 (.t 1), some 3, none⟩,
    ⟨.newbox (J9 default), some 4, none⟩])
  (.seq (.seq (.reg false [] [⟨.mv (.t 0), some 5, none⟩,
    ⟨.call Jd [(.t 5), (.c (.p (.i .i64 4)))] 0, some 6, none⟩])
  (.block 0 (.seq (.reg false [] [⟨.bin .eql .plain (.t 6) (.c (.p (.i .i64 0))), some 8, none⟩,
    ⟨.mv (.t 8), some 7, none⟩])
  (.cond (.t 7)
  (.reg false [] [⟨.mv (.t 0), some 9, none⟩,
      ⟨.call J1q [(.t 9)] 0, some 10, none⟩,
      ⟨.faddr 0 (.t 3), some 11, none⟩,
      ⟨.store 1 (.t 11) (.t 10), none, none⟩])
  (.seq (.reg false [] [⟨.bin .eql .plain (.t 6) (.c (.p (.i .i64 1))), some 13, none⟩,
      ⟨.mv (.t 13), some 12, none⟩])
    (.cond (.t 12)
    (.reg false [] [⟨.mv (.t 0), some 14, none⟩,
        ⟨.call J1q [(.t 14)] 0, some 15, none⟩,
        ⟨.faddr 1 (.t 3), some 16, none⟩,
        ⟨.store 1 (.t 16) (.t 15), none, none⟩])
    (.seq (.reg false [] [⟨.bin .eql .plain (.t 6) (.c (.p (.i .i64 2))), some 18, none⟩,
        ⟨.mv (.t 18), some 17, none⟩])
      (.cond (.t 17)
      (.reg false [] [⟨.mv (.t 0), some 19, none⟩,
          ⟨.call Jd [(.t 19), (.c (.p (.i .i64 16)))] 0, some 20, none⟩,
          ⟨.mv (.t 0), some 21, none⟩,
          ⟨.call Jd [(.t 21), (.c (.p (.i .i64 2)))] 0, some 22, none⟩,
          ⟨.bin .eql .plain (.t 22) (.c (.p (.i .i64 1))), some 23, none⟩,
          ⟨.mv (.t 0), some 24, none⟩,
          ⟨.call J2F [(.t 24)] 0, some 25, none⟩,
          ⟨.build (Jm default) [(0, 1, (.t 23)), (1, 1, (.t 25))], some 26, none⟩,
          ⟨.faddr 2 (.t 3), some 27, none⟩,
          ⟨.aaddr 16 2 (.t 27) (.t 20), some 28, none⟩,
          ⟨.store 2 (.t 28) (.t 26), none, none⟩])
      (.seq (.reg false [] [⟨.bin .eql .plain (.t 6) (.c (.p (.i .i64 3))), some 30, none⟩,
          ⟨.mv (.t 30), some 29, none⟩])
        (.cond (.t 29)
        (.reg false [] [⟨.mv (.t 0), some 31, none⟩,
            ⟨.call Jd [(.t 31), (.c (.p (.i .i64 16)))] 0, some 32, none⟩,
            ⟨.mv (.t 0), some 33, none⟩,
            ⟨.call J2E [(.t 33)] 0, some 34, none⟩,
            ⟨.faddr 2 (.t 3), some 35, none⟩,
            ⟨.aaddr 16 2 (.t 35) (.t 32), some 36, none⟩,
            ⟨.store 2 (.t 36) (.t 34), none, none⟩])
        (.skip)))))))))))
  (.seq (.reg false [] [⟨.load true 34 (.t 3), some 37, none⟩,
    ⟨.store 34 (.t 4) (.t 37), none, none⟩])
  (.ret)))
def J3j : AFn := ⟨2, 38, J0i, [.cell 4 true 34], false⟩
def J3U : Jn := .seq (.reg false [] [⟨.box 34 (.t 0), some 1, none⟩,
    ⟨.mv (.c (.p (.b false))), some 2, none⟩])
  (.seq (.reg false [] [⟨.faddr 0 (.t 1), some 3, none⟩,
    ⟨.load false 1 (.t 3), some 4, none⟩,
    ⟨.call J7P [(.t 4)] 0, some 5, none⟩,
    ⟨.mv (.t 5), some 6, none⟩,
    ⟨.faddr 1 (.t 1), some 7, some (6, true)⟩,
    ⟨.load false 1 (.t 7), some 8, some (6, true)⟩,
    ⟨.bin .geq .plain (.t 8) (.c (.p (.i .i64 0))), some 9, some (6, true)⟩,
    ⟨.pick (.t 6) (.t 9) (.c (.p (.b false))), some 10, none⟩,
    ⟨.mv (.t 10), some 11, none⟩,
    ⟨.faddr 1 (.t 1), some 12, some (11, true)⟩,
    ⟨.load false 1 (.t 12), some 13, some (11, true)⟩,
    ⟨.bin .leq .plain (.t 13) (.c (.p (.i .i64 1099511627776))), some 14, some (11, true)⟩,
    ⟨.pick (.t 11) (.t 14) (.c (.p (.b false))), some 15, none⟩,
    ⟨.mv (.t 15), some 2, none⟩])
  (.ret))
def J6O : AFn := ⟨1, 16, J3U, [.tmp 2], false⟩
def J7v : Jn := .reg true [(6, 8), (6, 11), (8, 14)] [⟨.mv (.t 0), some 10, none⟩,
    ⟨.mv (.t 0), some 11, none⟩,
    ⟨.nilchk (.t 11), some 12, none⟩,
    ⟨.faddr 0 (.t 12), some 13, none⟩,
    ⟨.load false 1 (.t 13), some 14, none⟩,
    ⟨.mv (.t 4), some 15, none⟩,
    ⟨.call J2d [(.t 14), (.t 15), (.c (.p (.i .i64 1)))] 0, some 16, none⟩,
    ⟨.faddr 1 (.t 3), some 17, none⟩,
    ⟨.load false 1 (.t 17), some 18, none⟩,
    ⟨.bin .add .plain (.t 16) (.t 18), some 19, none⟩,
    ⟨.faddr 1 (.t 3), some 20, none⟩,
    ⟨.load false 1 (.t 20), some 21, none⟩,
    ⟨.len true (.t 21), some 22, none⟩,
    ⟨.bin .sub .plain (.c (.p (.i .i64 12))) (.t 22), some 23, none⟩,
    ⟨.call J30 [(.c (.p (.s [0]))), (.t 23)] 0, some 24, none⟩,
    ⟨.bin .add .plain (.t 19) (.t 24), some 25, none⟩,
    ⟨.nilchk (.t 10), some 26, none⟩,
    ⟨.faddr 0 (.t 26), some 27, none⟩,
    ⟨.store 1 (.t 27) (.t 25), none, none⟩]
def J3H : Jn := .seq (.reg false [] [⟨.box 2 (.t 1), some 3, none⟩])
  (.seq (.reg false [] [⟨.mv (.c (.p (.i .i64 255))), some 4, none⟩])
  (.seq (.seq (.reg false [] [⟨.faddr 0 (.t 3), some 5, none⟩,
    ⟨.load false 1 (.t 5), some 6, none⟩])
  (.cond (.t 6)
  (.reg false [] [⟨.faddr 1 (.t 3), some 7, none⟩,
      ⟨.load false 1 (.t 7), some 8, none⟩,
      ⟨.len true (.t 8), some 9, none⟩,
      ⟨.mv (.t 9), some 4, none⟩])
  (.skip)))
  (.keep [0, 3, 4] J7v)))
def J2J : AFn := ⟨2, 28, J3H, [], false⟩
def J4K : Jn := .seq (.reg false [] [⟨.bin .lss .plain (.t 9) (.t 8), some 10, none⟩])
  (.seq (.cond (.t 10)
  (.skip)
  (.exit 0))
  (.seq (.block 1 (.seq (.reg false [] [⟨.mv (.t 9), some 11, none⟩,
    ⟨.mv (.t 11), some 5, none⟩])
  (.seq (.reg false [] [⟨.mv (.t 4), some 12, none⟩,
    ⟨.mv (.t 0), some 13, none⟩,
    ⟨.mv (.t 5), some 14, none⟩,
    ⟨.sidx (.t 13) (.t 14), some 15, none⟩,
    ⟨.conv (.int .u32) (.t 15), some 16, none⟩,
    ⟨.bin .xor .plain (.t 12) (.t 16), some 17, none⟩,
    ⟨.mv (.t 17), some 4, none⟩])
  (.keep [0, 3, 4, 8, 9] (.seq (.reg false [] [⟨.mv (.t 4), some 18, none⟩,
    ⟨.bin .shr .plain (.t 18) (.c (.p (.i .u64 4))), some 19, none⟩,
    ⟨.mv (.t 4), some 20, none⟩,
    ⟨.bin .and .plain (.t 20) (.c (.p (.i .u32 15))), some 21, none⟩,
    ⟨.aaddr 16 1 (.t 3) (.t 21), some 22, none⟩,
    ⟨.load false 1 (.t 22), some 23, none⟩,
    ⟨.bin .xor .plain (.t 19) (.t 23), some 24, none⟩,
    ⟨.mv (.t 24), some 4, none⟩])
  (.keep [0, 3, 4, 8, 9] (.reg false [] [⟨.mv (.t 4), some 25, none⟩,
    ⟨.bin .shr .plain (.t 25) (.c (.p (.i .u64 4))), some 26, none⟩,
    ⟨.mv (.t 4), some 27, none⟩,
    ⟨.bin .and .plain (.t 27) (.c (.p (.i .u32 15))), some 28, none⟩,
    ⟨.aaddr 16 1 (.t 3) (.t 28), some 29, none⟩,
    ⟨.load false 1 (.t 29), some 30, none⟩,
    ⟨.bin .xor .plain (.t 26) (.t 30), some 31, none⟩,
    ⟨.mv (.t 31), some 4, none⟩])))))))
  (.reg false [] [⟨.bin .add .plain (.t 9) (.c (.p (.i .i64 1))), some 32, none⟩,
    ⟨.mv (.t 32), some 9, none⟩])))
def J5E : Jn := .seq (.reg false [] [⟨.mv (.t 4), some 33, none⟩,
    ⟨.un .xor (.t 33), some 34, none⟩,
    ⟨.mv (.t 34), some 2, none⟩])
  (.ret)
def J9Z : Jn := .seq (.reg false [] [⟨.mv (.c (.p (.i .u32 0))), some 2, none⟩])
  (.seq (.reg false [] [⟨.call J45 [] 0, some 6, none⟩,
    ⟨.newbox (J06 (r_i .u32) (Vector.replicate 16 (0 : Int))), some 3, none⟩,
    ⟨.store 16 (.t 3) (.t 6), none, none⟩])
  (.keep [0, 3] (.seq (.reg false [] [⟨.mv (.c (.p (.i .u32 4294967295))), some 4, none⟩])
  (.seq (.seq (.reg false [] [⟨.mv (.t 0), some 7, none⟩,
    ⟨.len true (.t 7), some 8, none⟩,
    ⟨.mv (.c (.p (.i .i64 0))), some 9, none⟩])
  (.keep [0, 3, 4, 8, 9] (.block 0 (.loop [0, 3, 4, 8, 9] J4K))))
  (.keep [4] J5E)))))
def J3O : AFn := ⟨1, 35, J9Z, [.tmp 2], false⟩
def J42 : Jn := .seq (.reg false [] [⟨.box 37 (.t 2), some 5, none⟩,
    ⟨.mv (.c (.p (.sl 37 []))), some 6, none⟩])
  (.seq (.reg false [] [⟨.mv (.t 0), some 7, none⟩,
    ⟨.call JT [(.t 7)] 1, some 8, none⟩,
    ⟨.mv (.t 8), some 0, none⟩])
  (.keep [0, 1, 5] (.seq (.reg false [] [⟨.mv (.t 0), some 9, none⟩,
    ⟨.mv (.t 1), some 10, none⟩,
    ⟨.load true 37 (.t 5), some 11, none⟩,
    ⟨.iaddr 37 (.t 9) (.t 10), some 12, none⟩,
    ⟨.store 37 (.t 12) (.t 11), none, none⟩])
  (.keep [0] (.seq (.reg false [] [⟨.mv (.t 0), some 13, none⟩,
    ⟨.mv (.t 13), some 6, none⟩])
  (.ret))))))
def J2X : AFn := ⟨3, 14, J42, [.tmp 6], false⟩
def J9M : Jn := .seq (.reg false [] [⟨.mv (.c (.p (.i .i64 0))), some 4, none⟩])
  (.seq (.reg false [] [⟨.mv (.t 0), some 7, none⟩,
    ⟨.call J8R [(.t 7)] 0, some 8, none⟩,
    ⟨.mv (.t 8), some 5, none⟩])
  (.keep [0, 1, 5] (.seq (.reg false [] [⟨.mv (.t 1), some 9, none⟩,
    ⟨.call J8R [(.t 9)] 0, some 10, none⟩,
    ⟨.mv (.t 10), some 6, none⟩])
  (.keep [0, 1, 5, 6] (.seq (.seq (.reg false [] [⟨.mv (.t 5), some 11, none⟩])
  (.cond (.t 11)
  (.seq (.seq (.reg false [] [⟨.mv (.t 6), some 12, none⟩])
    (.cond (.t 12)
    (.seq (.reg false [] [⟨.mv (.c (.p (.i .i64 0))), some 4, none⟩])
      (.ret))
    (.skip)))
    (.seq (.reg false [] [⟨.mv (.c (.p (.i .i64 (-1)))), some 4, none⟩])
    (.ret)))
  (.skip)))
  (.seq (.seq (.reg false [] [⟨.mv (.t 6), some 13, none⟩])
  (.cond (.t 13)
  (.seq (.reg false [] [⟨.mv (.c (.p (.i .i64 1))), some 4, none⟩])
    (.ret))
  (.skip)))
  (.seq (.seq (.reg false [] [⟨.mv (.t 0), some 14, none⟩,
    ⟨.mv (.t 1), some 15, none⟩,
    ⟨.bin .lss .plain (.t 14) (.t 15), some 16, none⟩])
  (.keep [0, 1, 16] (.cond (.t 16)
  (.seq (.reg false [] [⟨.mv (.c (.p (.i .i64 (-1)))), some 4, none⟩])
    (.ret))
  (.skip))))
  (.seq (.seq (.reg false [] [⟨.mv (.t 0), some 17, none⟩,
    ⟨.mv (.t 1), some 18, none⟩,
    ⟨.bin .gtr .plain (.t 17) (.t 18), some 19, none⟩])
  (.keep [19] (.cond (.t 19)
  (.seq (.reg false [] [⟨.mv (.c (.p (.i .i64 1))), some 4, none⟩])
    (.ret))
  (.skip))))
  (.seq (.reg false [] [⟨.mv (.c (.p (.i .i64 0))), some 4, none⟩])
  (.ret))))))))))
def Jca : AFn := ⟨2, 20, J9M, [.tmp 4], false⟩
def J0L : Jn := .seq (.seq (.reg false [] [⟨.mv (.t 3), some 4, none⟩,
    ⟨.bin .lss .plain (.t 4) (.c (.p (.i .i64 16))), some 5, none⟩])
  (.cond (.t 5)
  (.skip)
  (.exit 0)))
  (.seq (.block 1 (.seq (.reg false [] [⟨.mv (.t 3), some 8, none⟩,
    ⟨.faddr 2 (.t 1), some 9, none⟩,
    ⟨.aaddr 16 2 (.t 9) (.t 8), some 10, none⟩,
    ⟨.load true 2 (.t 10), some 11, none⟩,
    ⟨.call J4E [(.t 11)] 0, some 12, none⟩,
    ⟨.un .not (.t 12), some 13, none⟩,
    ⟨.mv (.t 13), some 14, none⟩,
    ⟨.faddr 1 (.t 1), some 15, some (14, false)⟩,
    ⟨.load false 1 (.t 15), some 16, some (14, false)⟩,
    ⟨.bin .eql .plain (.t 16) (.c (.p (.i .i64 0))), some 17, some (14, false)⟩,
    ⟨.mv (.t 17), some 18, some (14, false)⟩,
    ⟨.mv (.t 3), some 19, some (18, true)⟩,
    ⟨.faddr 2 (.t 1), some 20, some (18, true)⟩,
    ⟨.aaddr 16 2 (.t 20) (.t 19), some 21, some (18, true)⟩,
    ⟨.faddr 0 (.t 21), some 22, some (18, true)⟩,
    ⟨.load false 1 (.t 22), some 23, some (18, true)⟩,
    ⟨.pick (.t 18) (.t 23) (.c (.p (.b false))), some 24, some (14, false)⟩,
    ⟨.pick (.t 14) (.c (.p (.b true))) (.t 24), some 25, none⟩])
  (.keep [1, 3, 25] (.cond (.t 25)
  (.seq (.reg false [] [⟨.mv (.c (.p (.b false))), some 2, none⟩])
    (.ret))
  (.skip)))))
  (.reg false [] [⟨.mv (.t 3), some 6, none⟩,
    ⟨.bin .add .plain (.t 6) (.c (.p (.i .i64 1))), some 7, none⟩,
    ⟨.mv (.t 7), some 3, none⟩]))
def J4b : Jn := .seq (.reg false [] [⟨.mv (.c (.p (.b true))), some 2, none⟩])
  (.ret)
def J8j : Jn := .seq (.reg false [] [⟨.box 34 (.t 0), some 1, none⟩,
    ⟨.mv (.c (.p (.b false))), some 2, none⟩])
  (.seq (.seq (.reg false [] [⟨.mv (.c (.p (.i .i64 0))), some 3, none⟩])
  (.block 0 (.loop [1, 3] J0L)))
  (.keep [] J4b))
def J2q : AFn := ⟨1, 26, J8j, [.tmp 2], false⟩
def J6g : Jn := .seq (.reg false [] [⟨.box 34 (.t 0), some 1, none⟩,
    ⟨.mv (.c (.p (.b false))), some 2, none⟩])
  (.seq (.reg false [] [⟨.load true 34 (.t 1), some 3, none⟩,
    ⟨.call J5N [(.t 3)] 0, some 4, none⟩,
    ⟨.mv (.t 4), some 5, none⟩,
    ⟨.load true 34 (.t 1), some 6, some (5, true)⟩,
    ⟨.call J6p [(.t 6)] 0, some 7, some (5, true)⟩,
    ⟨.pick (.t 5) (.t 7) (.c (.p (.b false))), some 8, none⟩,
    ⟨.mv (.t 8), some 2, none⟩])
  (.ret))
def J7O : AFn := ⟨1, 9, J6g, [.tmp 2], false⟩
def J3E : Jn := .seq (.reg false [] [⟨.bin .lss .plain (.t 29) (.c (.p (.i .i64 16))), some 30, none⟩])
  (.seq (.cond (.t 30)
  (.skip)
  (.exit 1))
  (.seq (.block 2 (.seq (.reg false [] [⟨.aidx true 16 2 (.t 28) (.t 29), some 31, none⟩,
    ⟨.newbox (Jm default), some 7, none⟩,
    ⟨.store 2 (.t 7) (.t 31), none, none⟩])
  (.keep [1, 4, 5, 7, 28, 29] (.reg false [] [⟨.mv (.t 5), some 32, none⟩,
    ⟨.load true 2 (.t 7), some 33, none⟩,
    ⟨.callv (.t 32) [(.t 33)] 0, some 34, none⟩]))))
  (.reg false [] [⟨.bin .add .plain (.t 29) (.c (.p (.i .i64 1))), some 35, none⟩,
    ⟨.mv (.t 35), some 29, none⟩])))
def J4c : Jn := .seq (.reg true [(3, 10)] [⟨.mv (.t 4), some 36, none⟩,
    ⟨.nilchk (.t 36), some 37, none⟩,
    ⟨.faddr 0 (.t 37), some 38, none⟩,
    ⟨.load false 1 (.t 38), some 39, none⟩,
    ⟨.mv (.t 4), some 40, none⟩,
    ⟨.nilchk (.t 40), some 41, none⟩,
    ⟨.faddr 0 (.t 41), some 42, none⟩,
    ⟨.load false 1 (.t 42), some 43, none⟩,
    ⟨.len true (.t 43), some 44, none⟩,
    ⟨.bin .sub .plain (.c (.p (.i .i64 244))) (.t 44), some 45, none⟩,
    ⟨.call J30 [(.c (.p (.s [0]))), (.t 45)] 0, some 46, none⟩,
    ⟨.bin .add .plain (.t 39) (.t 46), some 47, none⟩,
    ⟨.mv (.t 47), some 8, none⟩])
  (.keep [1, 8] (.seq (.reg true [(2, 6), (4, 6)] [⟨.mv (.t 8), some 48, none⟩,
    ⟨.mv (.t 8), some 49, none⟩,
    ⟨.call J7l [(.t 49)] 0, some 50, none⟩,
    ⟨.conv (.int .i64) (.t 50), some 51, none⟩,
    ⟨.call J2d [(.t 48), (.t 51), (.c (.p (.i .i64 4)))] 0, some 52, none⟩,
    ⟨.faddr 1 (.t 1), some 53, none⟩,
    ⟨.load false 1 (.t 53), some 54, none⟩,
    ⟨.call J2d [(.t 52), (.t 54), (.c (.p (.i .i64 8)))] 0, some 55, none⟩,
    ⟨.mv (.t 55), some 2, none⟩,
    ⟨.mv (.c (.p (.i .i64 0))), some 3, none⟩])
  (.ret)))
def J3W : Jn := .seq (.reg false [] [⟨.box 34 (.t 0), some 1, none⟩,
    ⟨.mv (.c (.p (.s []))), some 2, none⟩,
    ⟨.mv (.c (.p (.i .i64 0))), some 3, none⟩])
  (.keep [1] (.seq (.block 0 (.seq (.reg false [] [⟨.load true 34 (.t 1), some 10, none⟩,
    ⟨.call J5N [(.t 10)] 0, some 11, none⟩,
    ⟨.un .not (.t 11), some 12, none⟩,
    ⟨.mv (.t 12), some 9, none⟩])
  (.keep [1, 9] (.cond (.t 9)
  (.seq (.reg false [] [⟨.mv (.c (.p (.s []))), some 2, none⟩,
      ⟨.mv (.c (.p (.i .i64 1))), some 3, none⟩])
    (.ret))
  (.seq (.reg false [] [⟨.load true 34 (.t 1), some 14, none⟩,
      ⟨.call J6p [(.t 14)] 0, some 15, none⟩,
      ⟨.un .not (.t 15), some 16, none⟩,
      ⟨.mv (.t 16), some 13, none⟩])
    (.keep [1, 13] (.cond (.t 13)
    (.seq (.reg false [] [⟨.mv (.c (.p (.s []))), some 2, none⟩,
        ⟨.mv (.c (.p (.i .i64 22))), some 3, none⟩])
      (.ret))
    (.skip))))))))
  (.seq (.reg true [(2, 4)] [⟨.faddr 1 (.t 1), some 17, none⟩,
    ⟨.load false 1 (.t 17), some 18, none⟩,
    ⟨.call J2d [(.c (.p (.s []))), (.t 18), (.c (.p (.i .i64 8)))] 0, some 19, none⟩,
    ⟨.faddr 0 (.t 1), some 20, none⟩,
    ⟨.load false 1 (.t 20), some 21, none⟩,
    ⟨.call J2d [(.t 19), (.t 21), (.c (.p (.i .i64 4)))] 0, some 22, none⟩,
    ⟨.build (J0O default) [(0, 1, (.t 22))], some 23, none⟩,
    ⟨.box 1 (.t 23), some 24, none⟩,
    ⟨.mv (.t 24), some 4, none⟩])
  (.keep [1, 4] (.seq (.reg false [] [⟨.mv (.t 4), some 25, none⟩,
    ⟨.mkfn J18 [(.t 25)] [], some 26, none⟩,
    ⟨.mv (.t 26), some 5, none⟩])
  (.keep [1, 4, 5] (.seq (.tidy [1, 2, 3, 4] (.seq (.reg false [] [⟨.faddr 2 (.t 1), some 27, none⟩,
    ⟨.load true 32 (.t 27), some 28, none⟩,
    ⟨.mv (.c (.p (.i .i64 0))), some 29, none⟩])
  (.keep [1, 4, 5, 28, 29] (.block 1 (.loop [1, 4, 5, 28, 29] J3E)))))
  (.keep [1, 4] J4c))))))))
def J2n : AFn := ⟨1, 56, J3W, [.tmp 2, .tmp 3], false⟩
def J5I : Jn := .seq (.reg false [] [⟨.box 34 (.t 0), some 1, none⟩,
    ⟨.mv (.c (.p (.b false))), some 2, none⟩])
  (.seq (.reg false [] [⟨.load true 34 (.t 1), some 3, none⟩,
    ⟨.call J4q [(.t 3)] 0, some 4, none⟩,
    ⟨.mv (.t 4), some 5, none⟩,
    ⟨.load true 34 (.t 1), some 6, some (5, true)⟩,
    ⟨.call J5A [(.t 6)] 0, some 7, some (5, true)⟩,
    ⟨.pick (.t 5) (.t 7) (.c (.p (.b false))), some 8, none⟩,
    ⟨.mv (.t 8), some 2, none⟩])
  (.ret))
def J6E : AFn := ⟨1, 9, J5I, [.tmp 2], false⟩
def J1h : Jn := .seq (.reg false [] [⟨.box 3 (.t 1), some 3, none⟩,
    ⟨.newbox (J3 default), some 4, none⟩])
  (.seq (.reg false [] [⟨.faddr 1 (.t 3), some 6, none⟩,
    ⟨.load false 1 (.t 6), some 7, none⟩,
    ⟨.appn 37 424 (J7 default) (.t 7), some 8, none⟩,
    ⟨.faddr 1 (.t 3), some 9, none⟩,
    ⟨.store 1 (.t 9) (.t 8), none, none⟩])
  (.keep [0, 3, 4] (.seq (.seq (.reg false [] [⟨.faddr 1 (.t 3), some 10, none⟩,
    ⟨.load false 1 (.t 10), some 11, none⟩,
    ⟨.len false (.t 11), some 12, none⟩,
    ⟨.bin .eql .plain (.t 12) (.c (.p (.i .i64 0))), some 13, none⟩,
    ⟨.mv (.t 13), some 14, none⟩,
    ⟨.mv (.t 0), some 15, some (14, false)⟩,
    ⟨.call Jd [(.t 15), (.c (.p (.i .i64 3)))] 0, some 16, some (14, false)⟩,
    ⟨.bin .eql .plain (.t 16) (.c (.p (.i .i64 0))), some 17, some (14, false)⟩,
    ⟨.pick (.t 14) (.c (.p (.b true))) (.t 17), some 18, none⟩])
  (.keep [0, 3, 4, 18] (.cond (.t 18)
  (.seq (.reg false [] [⟨.mv (.t 0), some 19, none⟩,
      ⟨.call J1q [(.t 19)] 0, some 20, none⟩,
      ⟨.mv (.t 0), some 21, none⟩,
      ⟨.call Jd [(.t 21), (.c (.p (.i .i64 4)))] 0, some 22, none⟩,
      ⟨.bin .sub .plain (.t 22) (.c (.p (.i .i64 1))), some 23, none⟩,
      ⟨.faddr 0 (.t 3), some 24, none⟩,
      ⟨.store 1 (.t 24) (.t 20), none, none⟩,
      ⟨.faddr 2 (.t 3), some 25, none⟩,
      ⟨.store 1 (.t 25) (.t 23), none, none⟩])
    (.keep [3, 4] (.seq (.reg false [] [⟨.load true 3 (.t 3), some 26, none⟩,
      ⟨.store 3 (.t 4) (.t 26), none, none⟩])
    (.ret))))
  (.skip))))
  (.seq (.reg true [(1, 6)] [⟨.faddr 1 (.t 3), some 27, none⟩,
    ⟨.load false 1 (.t 27), some 28, none⟩,
    ⟨.mv (.t 0), some 29, none⟩,
    ⟨.faddr 1 (.t 3), some 30, none⟩,
    ⟨.load false 1 (.t 30), some 31, none⟩,
    ⟨.len false (.t 31), some 32, none⟩,
    ⟨.call Jd [(.t 29), (.t 32)] 0, some 33, none⟩,
    ⟨.iaddr 37 (.t 28) (.t 33), some 34, none⟩,
    ⟨.mv (.t 34), some 5, none⟩])
  (.keep [0, 3, 4, 5] (.seq (.seq (.reg false [] [⟨.mv (.t 0), some 35, none⟩,
    ⟨.call Jd [(.t 35), (.c (.p (.i .i64 4)))] 0, some 36, none⟩])
  (.block 0 (.seq (.reg false [] [⟨.bin .eql .plain (.t 36) (.c (.p (.i .i64 0))), some 38, none⟩,
    ⟨.mv (.t 38), some 37, none⟩])
  (.cond (.t 37)
  (.reg false [] [⟨.mv (.t 5), some 39, none⟩,
      ⟨.mv (.t 0), some 40, none⟩,
      ⟨.mv (.t 5), some 41, none⟩,
      ⟨.nilchk (.t 41), some 42, none⟩,
      ⟨.faddr 0 (.t 42), some 43, none⟩,
      ⟨.load true 34 (.t 43), some 44, none⟩,
      ⟨.call J1g [(.t 40), (.t 44)] 0, some 45, none⟩,
      ⟨.nilchk (.t 39), some 46, none⟩,
      ⟨.faddr 0 (.t 46), some 47, none⟩,
      ⟨.store 34 (.t 47) (.t 45), none, none⟩])
  (.seq (.reg false [] [⟨.bin .eql .plain (.t 36) (.c (.p (.i .i64 1))), some 49, none⟩,
      ⟨.mv (.t 49), some 48, none⟩])
    (.cond (.t 48)
    (.reg false [] [⟨.mv (.t 5), some 50, none⟩,
        ⟨.mv (.t 5), some 51, none⟩,
        ⟨.nilchk (.t 51), some 52, none⟩,
        ⟨.faddr 34 (.t 52), some 53, none⟩,
        ⟨.load false 1 (.t 53), some 54, none⟩,
        ⟨.un .not (.t 54), some 55, none⟩,
        ⟨.nilchk (.t 50), some 56, none⟩,
        ⟨.faddr 34 (.t 56), some 57, none⟩,
        ⟨.store 1 (.t 57) (.t 55), none, none⟩])
    (.seq (.reg false [] [⟨.bin .eql .plain (.t 36) (.c (.p (.i .i64 2))), some 59, none⟩,
        ⟨.mv (.t 59), some 58, none⟩])
      (.cond (.t 58)
      (.reg false [] [⟨.mv (.t 5), some 60, none⟩,
          ⟨.mv (.t 0), some 61, none⟩,
          ⟨.call Jd [(.t 61), (.c (.p (.i .i64 5)))] 0, some 62, none⟩,
          ⟨.nilchk (.t 60), some 63, none⟩,
          ⟨.faddr 35 (.t 63), some 64, none⟩,
          ⟨.store 1 (.t 64) (.t 62), none, none⟩])
      (.seq (.reg false [] [⟨.bin .eql .plain (.t 36) (.c (.p (.i .i64 3))), some 66, none⟩,
          ⟨.mv (.t 66), some 65, none⟩])
        (.cond (.t 65)
        (.reg false [] [⟨.mv (.t 5), some 67, none⟩,
            ⟨.mv (.t 0), some 68, none⟩,
            ⟨.call Jd [(.t 68), (.c (.p (.i .i64 6)))] 0, some 69, none⟩,
            ⟨.nilchk (.t 67), some 70, none⟩,
            ⟨.faddr 0 (.t 70), some 71, none⟩,
            ⟨.faddr 0 (.t 71), some 72, none⟩,
            ⟨.store 1 (.t 72) (.t 69), none, none⟩])
        (.skip)))))))))))
  (.seq (.reg false [] [⟨.load true 3 (.t 3), some 73, none⟩,
    ⟨.store 3 (.t 4) (.t 73), none, none⟩])
  (.ret))))))))
def J8A : AFn := ⟨2, 74, J1h, [.cell 4 true 3], false⟩
def J0c : Jn := .seq (.reg false [] [⟨.bin .lss .plain (.t 38) (.t 37), some 39, none⟩])
  (.seq (.cond (.t 39)
  (.skip)
  (.exit 0))
  (.seq (.block 1 (.seq (.reg false [] [⟨.mv (.t 38), some 40, none⟩,
    ⟨.iaddr 37 (.t 36) (.t 38), some 41, none⟩,
    ⟨.load true 37 (.t 41), some 42, none⟩,
    ⟨.newbox (J7 default), some 4, none⟩,
    ⟨.mv (.t 40), some 3, none⟩,
    ⟨.store 37 (.t 4) (.t 42), none, none⟩])
  (.keep [1, 3, 4, 36, 37, 38] (.block 2 (.seq (.reg false [] [⟨.faddr 0 (.t 4), some 44, none⟩,
    ⟨.load true 34 (.t 44), some 45, none⟩,
    ⟨.call J7V [(.t 45)] 0, some 46, none⟩,
    ⟨.un .not (.t 46), some 47, none⟩,
    ⟨.mv (.t 47), some 48, none⟩,
    ⟨.load true 3 (.t 1), some 49, some (48, false)⟩,
    ⟨.faddr 0 (.t 4), some 50, some (48, false)⟩,
    ⟨.faddr 0 (.t 50), some 51, some (48, false)⟩,
    ⟨.load false 1 (.t 51), some 52, some (48, false)⟩,
    ⟨.call J3R [(.t 49), (.t 52)] 0, some 53, some (48, false)⟩,
    ⟨.mv (.t 3), some 54, some (48, false)⟩,
    ⟨.bin .neq .plain (.t 53) (.t 54), some 55, some (48, false)⟩,
    ⟨.pick (.t 48) (.c (.p (.b true))) (.t 55), some 56, none⟩,
    ⟨.mv (.t 56), some 43, none⟩])
  (.keep [1, 4, 36, 37, 38, 43] (.cond (.t 43)
  (.seq (.reg false [] [⟨.mv (.c (.p (.b false))), some 2, none⟩])
    (.ret))
  (.seq (.reg false [] [⟨.faddr 34 (.t 4), some 58, none⟩,
      ⟨.load false 1 (.t 58), some 59, none⟩,
      ⟨.mv (.t 59), some 60, none⟩,
      ⟨.faddr 35 (.t 4), some 61, some (60, true)⟩,
      ⟨.load false 1 (.t 61), some 62, some (60, true)⟩,
      ⟨.bin .lss .plain (.t 62) (.c (.p (.i .i64 1))), some 63, some (60, true)⟩,
      ⟨.mv (.t 63), some 64, some (60, true)⟩,
      ⟨.faddr 35 (.t 4), some 65, some (64, false)⟩,
      ⟨.load false 1 (.t 65), some 66, some (64, false)⟩,
      ⟨.faddr 0 (.t 4), some 67, some (64, false)⟩,
      ⟨.faddr 1 (.t 67), some 68, some (64, false)⟩,
      ⟨.load false 1 (.t 68), some 69, some (64, false)⟩,
      ⟨.bin .gtr .plain (.t 66) (.t 69), some 70, some (64, false)⟩,
      ⟨.pick (.t 64) (.c (.p (.b true))) (.t 70), some 71, some (60, true)⟩,
      ⟨.pick (.t 60) (.t 71) (.c (.p (.b false))), some 72, none⟩,
      ⟨.mv (.t 72), some 73, none⟩,
      ⟨.faddr 34 (.t 4), some 74, some (73, false)⟩,
      ⟨.load false 1 (.t 74), some 75, some (73, false)⟩,
      ⟨.un .not (.t 75), some 76, some (73, false)⟩,
      ⟨.mv (.t 76), some 77, some (73, false)⟩,
      ⟨.faddr 35 (.t 4), some 78, some (77, true)⟩,
      ⟨.load false 1 (.t 78), some 79, some (77, true)⟩,
      ⟨.bin .neq .plain (.t 79) (.c (.p (.i .i64 0))), some 80, some (77, true)⟩,
      ⟨.pick (.t 77) (.t 80) (.c (.p (.b false))), some 81, some (73, false)⟩,
      ⟨.pick (.t 73) (.c (.p (.b true))) (.t 81), some 82, none⟩,
      ⟨.mv (.t 82), some 57, none⟩])
    (.keep [1, 36, 37, 38, 57] (.cond (.t 57)
    (.seq (.reg false [] [⟨.mv (.c (.p (.b false))), some 2, none⟩])
      (.ret))
    (.skip)))))))))))
  (.reg false [] [⟨.bin .add .plain (.t 38) (.c (.p (.i .i64 1))), some 83, none⟩,
    ⟨.mv (.t 83), some 38, none⟩])))
def J5d : Jn := .seq (.reg false [] [⟨.mv (.c (.p (.b true))), some 2, none⟩])
  (.ret)
def J1I : Jn := .seq (.reg false [] [⟨.box 3 (.t 0), some 1, none⟩,
    ⟨.mv (.c (.p (.b false))), some 2, none⟩])
  (.seq (.seq (.reg false [] [⟨.faddr 0 (.t 1), some 5, none⟩,
    ⟨.load false 1 (.t 5), some 6, none⟩,
    ⟨.bin .lss .plain (.t 6) (.c (.p (.i .i64 1))), some 7, none⟩,
    ⟨.mv (.t 7), some 8, none⟩,
    ⟨.faddr 0 (.t 1), some 9, some (8, false)⟩,
    ⟨.load false 1 (.t 9), some 10, some (8, false)⟩,
    ⟨.bin .gtr .plain (.t 10) (.c (.p (.i .i64 64))), some 11, some (8, false)⟩,
    ⟨.pick (.t 8) (.c (.p (.b true))) (.t 11), some 12, none⟩,
    ⟨.mv (.t 12), some 13, none⟩,
    ⟨.faddr 1 (.t 1), some 14, some (13, false)⟩,
    ⟨.load false 1 (.t 14), some 15, some (13, false)⟩,
    ⟨.len false (.t 15), some 16, some (13, false)⟩,
    ⟨.faddr 0 (.t 1), some 17, some (13, false)⟩,
    ⟨.load false 1 (.t 17), some 18, some (13, false)⟩,
    ⟨.bin .gtr .plain (.t 16) (.t 18), some 19, some (13, false)⟩,
    ⟨.pick (.t 13) (.c (.p (.b true))) (.t 19), some 20, none⟩,
    ⟨.mv (.t 20), some 21, none⟩,
    ⟨.faddr 2 (.t 1), some 22, some (21, false)⟩,
    ⟨.load false 1 (.t 22), some 23, some (21, false)⟩,
    ⟨.bin .lss .plain (.t 23) (.c (.p (.i .i64 0))), some 24, some (21, false)⟩,
    ⟨.pick (.t 21) (.c (.p (.b true))) (.t 24), some 25, none⟩,
    ⟨.mv (.t 25), some 26, none⟩,
    ⟨.faddr 2 (.t 1), some 27, some (26, false)⟩,
    ⟨.load false 1 (.t 27), some 28, some (26, false)⟩,
    ⟨.faddr 1 (.t 1), some 29, some (26, false)⟩,
    ⟨.load false 1 (.t 29), some 30, some (26, false)⟩,
    ⟨.len false (.t 30), some 31, some (26, false)⟩,
    ⟨.mm true (.c (.p (.i .i64 1))) (.t 31), some 32, some (26, false)⟩,
    ⟨.bin .geq .plain (.t 28) (.t 32), some 33, some (26, false)⟩,
    ⟨.pick (.t 26) (.c (.p (.b true))) (.t 33), some 34, none⟩])
  (.keep [1, 34] (.cond (.t 34)
  (.seq (.reg false [] [⟨.mv (.c (.p (.b false))), some 2, none⟩])
    (.ret))
  (.skip))))
  (.seq (.tidy [2] (.seq (.reg false [] [⟨.faddr 1 (.t 1), some 35, none⟩,
    ⟨.load false 1 (.t 35), some 36, none⟩,
    ⟨.len false (.t 36), some 37, none⟩,
    ⟨.mv (.c (.p (.i .i64 0))), some 38, none⟩])
  (.keep [1, 36, 37, 38] (.block 0 (.loop [1, 36, 37, 38] J0c)))))
  (.keep [] J5d)))
def J34 : AFn := ⟨1, 84, J1I, [.tmp 2], false⟩
def J2e : Jn := .seq (.seq (.reg false [] [⟨.mv (.t 6), some 78, none⟩,
    ⟨.mv (.t 4), some 79, none⟩,
    ⟨.bin .lss .plain (.t 78) (.t 79), some 80, none⟩])
  (.keep [1, 3, 4, 5, 6, 80] (.cond (.t 80)
  (.skip)
  (.exit 2))))
  (.seq (.block 3 (.seq (.reg true [] [⟨.faddr 1 (.t 1), some 83, none⟩,
    ⟨.load false 1 (.t 83), some 84, none⟩,
    ⟨.mv (.t 6), some 85, none⟩,
    ⟨.iaddr 37 (.t 84) (.t 85), some 86, none⟩,
    ⟨.faddr 0 (.t 86), some 87, none⟩,
    ⟨.faddr 0 (.t 87), some 88, none⟩,
    ⟨.load false 1 (.t 88), some 89, none⟩,
    ⟨.faddr 0 (.t 5), some 90, none⟩,
    ⟨.faddr 0 (.t 90), some 91, none⟩,
    ⟨.load false 1 (.t 91), some 92, none⟩,
    ⟨.bin .eql .plain (.t 89) (.t 92), some 93, none⟩])
  (.keep [1, 3, 4, 5, 6, 93] (.cond (.t 93)
  (.seq (.reg false [] [⟨.mv (.c (.p (.b false))), some 2, none⟩])
    (.ret))
  (.skip)))))
  (.reg false [] [⟨.mv (.t 6), some 81, none⟩,
    ⟨.bin .add .plain (.t 81) (.c (.p (.i .i64 1))), some 82, none⟩,
    ⟨.mv (.t 82), some 6, none⟩]))
def J4l : Jn := .reg false [] [⟨.mv (.t 4), some 40, none⟩,
    ⟨.bin .add .plain (.t 40) (.c (.p (.i .i64 1))), some 41, none⟩,
    ⟨.mv (.t 41), some 4, none⟩]
def JW : Jn := .seq (.seq (.reg false [] [⟨.mv (.t 4), some 37, none⟩,
    ⟨.mv (.t 3), some 38, none⟩,
    ⟨.bin .lss .plain (.t 37) (.t 38), some 39, none⟩])
  (.keep [1, 3, 4, 39] (.cond (.t 39)
  (.skip)
  (.exit 0))))
  (.seq (.tidy [1, 2, 3, 4] (.block 1 (.seq (.reg false [] [⟨.faddr 1 (.t 1), some 42, none⟩,
    ⟨.load false 1 (.t 42), some 43, none⟩,
    ⟨.mv (.t 4), some 44, none⟩,
    ⟨.iaddr 37 (.t 43) (.t 44), some 45, none⟩,
    ⟨.load true 37 (.t 45), some 46, none⟩,
    ⟨.newbox (J7 default), some 5, none⟩,
    ⟨.store 37 (.t 5) (.t 46), none, none⟩])
  (.keep [1, 3, 4, 5] (.seq (.seq (.reg false [] [⟨.faddr 0 (.t 5), some 47, none⟩,
    ⟨.load true 34 (.t 47), some 48, none⟩,
    ⟨.call J6L [(.t 48)] 0, some 49, none⟩,
    ⟨.un .not (.t 49), some 50, none⟩,
    ⟨.mv (.t 50), some 51, none⟩,
    ⟨.faddr 34 (.t 5), some 52, some (51, false)⟩,
    ⟨.load false 1 (.t 52), some 53, some (51, false)⟩,
    ⟨.mv (.t 53), some 54, some (51, false)⟩,
    ⟨.faddr 35 (.t 5), some 55, some (54, true)⟩,
    ⟨.load false 1 (.t 55), some 56, some (54, true)⟩,
    ⟨.bin .lss .plain (.t 56) (.c (.p (.i .i64 1))), some 57, some (54, true)⟩,
    ⟨.mv (.t 57), some 58, some (54, true)⟩,
    ⟨.faddr 35 (.t 5), some 59, some (58, false)⟩,
    ⟨.load false 1 (.t 59), some 60, some (58, false)⟩,
    ⟨.faddr 0 (.t 5), some 61, some (58, false)⟩,
    ⟨.faddr 1 (.t 61), some 62, some (58, false)⟩,
    ⟨.load false 1 (.t 62), some 63, some (58, false)⟩,
    ⟨.bin .gtr .plain (.t 60) (.t 63), some 64, some (58, false)⟩,
    ⟨.pick (.t 58) (.c (.p (.b true))) (.t 64), some 65, some (54, true)⟩,
    ⟨.pick (.t 54) (.t 65) (.c (.p (.b false))), some 66, some (51, false)⟩,
    ⟨.pick (.t 51) (.c (.p (.b true))) (.t 66), some 67, none⟩,
    ⟨.mv (.t 67), some 68, none⟩,
    ⟨.faddr 34 (.t 5), some 69, some (68, false)⟩,
    ⟨.load false 1 (.t 69), some 70, some (68, false)⟩,
    ⟨.un .not (.t 70), some 71, some (68, false)⟩,
    ⟨.mv (.t 71), some 72, some (68, false)⟩,
    ⟨.faddr 35 (.t 5), some 73, some (72, true)⟩,
    ⟨.load false 1 (.t 73), some 74, some (72, true)⟩,
    ⟨.bin .neq .plain (.t 74) (.c (.p (.i .i64 0))), some 75, some (72, true)⟩,
    ⟨.pick (.t 72) (.t 75) (.c (.p (.b false))), some 76, some (68, false)⟩,
    ⟨.pick (.t 68) (.c (.p (.b true))) (.t 76), some 77, none⟩])
  (.keep [1, 3, 4, 5, 77] (.cond (.t 77)
  (.seq (.reg false [] [⟨.mv (.c (.p (.b false))), some 2, none⟩])
    (.ret))
  (.skip))))
  (.seq (.reg false [] [⟨.mv (.c (.p (.i .i64 0))), some 6, none⟩])
  (.block 2 (.loop [1, 3, 4, 5, 6] J2e))))))))
  (.keep [1, 3, 4] J4l))
def J1o : Jn := .seq (.reg false [] [⟨.mv (.c (.p (.b true))), some 2, none⟩])
  (.ret)
def J1m : Jn := .seq (.reg false [] [⟨.box 3 (.t 0), some 1, none⟩,
    ⟨.mv (.c (.p (.b false))), some 2, none⟩])
  (.seq (.reg false [] [⟨.faddr 1 (.t 1), some 7, none⟩,
    ⟨.load false 1 (.t 7), some 8, none⟩,
    ⟨.len false (.t 8), some 9, none⟩,
    ⟨.mv (.t 9), some 3, none⟩])
  (.keep [1, 3] (.seq (.seq (.reg false [] [⟨.faddr 0 (.t 1), some 10, none⟩,
    ⟨.load false 1 (.t 10), some 11, none⟩,
    ⟨.bin .lss .plain (.t 11) (.c (.p (.i .i64 1))), some 12, none⟩,
    ⟨.mv (.t 12), some 13, none⟩,
    ⟨.faddr 0 (.t 1), some 14, some (13, false)⟩,
    ⟨.load false 1 (.t 14), some 15, some (13, false)⟩,
    ⟨.bin .gtr .plain (.t 15) (.c (.p (.i .i64 64))), some 16, some (13, false)⟩,
    ⟨.pick (.t 13) (.c (.p (.b true))) (.t 16), some 17, none⟩,
    ⟨.mv (.t 17), some 18, none⟩,
    ⟨.mv (.t 3), some 19, some (18, false)⟩,
    ⟨.faddr 0 (.t 1), some 20, some (18, false)⟩,
    ⟨.load false 1 (.t 20), some 21, some (18, false)⟩,
    ⟨.bin .gtr .plain (.t 19) (.t 21), some 22, some (18, false)⟩,
    ⟨.pick (.t 18) (.c (.p (.b true))) (.t 22), some 23, none⟩,
    ⟨.mv (.t 23), some 24, none⟩,
    ⟨.faddr 2 (.t 1), some 25, some (24, false)⟩,
    ⟨.load false 1 (.t 25), some 26, some (24, false)⟩,
    ⟨.bin .lss .plain (.t 26) (.c (.p (.i .i64 0))), some 27, some (24, false)⟩,
    ⟨.pick (.t 24) (.c (.p (.b true))) (.t 27), some 28, none⟩,
    ⟨.mv (.t 28), some 29, none⟩,
    ⟨.faddr 2 (.t 1), some 30, some (29, false)⟩,
    ⟨.load false 1 (.t 30), some 31, some (29, false)⟩,
    ⟨.mv (.t 3), some 32, some (29, false)⟩,
    ⟨.bin .sub .plain (.t 32) (.c (.p (.i .i64 1))), some 33, some (29, false)⟩,
    ⟨.mm true (.c (.p (.i .i64 0))) (.t 33), some 34, some (29, false)⟩,
    ⟨.bin .gtr .plain (.t 31) (.t 34), some 35, some (29, false)⟩,
    ⟨.pick (.t 29) (.c (.p (.b true))) (.t 35), some 36, none⟩])
  (.keep [1, 3, 36] (.cond (.t 36)
  (.seq (.reg false [] [⟨.mv (.c (.p (.b false))), some 2, none⟩])
    (.ret))
  (.skip))))
  (.seq (.tidy [2] (.seq (.reg false [] [⟨.mv (.c (.p (.i .i64 0))), some 4, none⟩])
  (.block 0 (.loop [1, 3, 4] JW))))
  (.keep [] J1o)))))
def J0S : AFn := ⟨1, 94, J1m, [.tmp 2], false⟩
def Jap : Jn := .reg false [] [⟨.mv (.t 4), some 11, none⟩,
    ⟨.bin .add .plain (.t 11) (.c (.p (.i .i64 1))), some 12, none⟩,
    ⟨.mv (.t 12), some 4, none⟩]
def J15 : Jn := .seq (.seq (.reg false [] [⟨.mv (.t 4), some 9, none⟩,
    ⟨.bin .lss .plain (.t 9) (.c (.p (.i .i64 64))), some 10, none⟩])
  (.cond (.t 10)
  (.skip)
  (.exit 0)))
  (.seq (.block 1 (.seq (.reg false [] [⟨.load true 3 (.t 1), some 13, none⟩,
    ⟨.mv (.t 4), some 14, none⟩,
    ⟨.call J38 [(.t 13), (.t 14)] 0, some 15, none⟩,
    ⟨.mv (.t 15), some 5, none⟩])
  (.keep [1, 3, 4, 5] (.seq (.reg false [] [⟨.mv (.t 5), some 16, none⟩,
    ⟨.bin .geq .plain (.t 16) (.c (.p (.i .i64 0))), some 17, none⟩,
    ⟨.mv (.t 17), some 18, none⟩,
    ⟨.faddr 1 (.t 1), some 19, some (18, true)⟩,
    ⟨.load false 1 (.t 19), some 20, some (18, true)⟩,
    ⟨.mv (.t 5), some 21, some (18, true)⟩,
    ⟨.iaddr 37 (.t 20) (.t 21), some 22, some (18, true)⟩,
    ⟨.faddr 34 (.t 22), some 23, some (18, true)⟩,
    ⟨.load false 1 (.t 23), some 24, some (18, true)⟩,
    ⟨.pick (.t 18) (.t 24) (.c (.p (.b false))), some 25, none⟩])
  (.keep [1, 3, 4, 5, 25] (.cond (.t 25)
  (.reg true [] [⟨.mv (.t 3), some 26, none⟩,
      ⟨.mv (.t 4), some 27, none⟩,
      ⟨.faddr 1 (.t 1), some 28, none⟩,
      ⟨.load false 1 (.t 28), some 29, none⟩,
      ⟨.mv (.t 5), some 30, none⟩,
      ⟨.iaddr 37 (.t 29) (.t 30), some 31, none⟩,
      ⟨.faddr 35 (.t 31), some 32, none⟩,
      ⟨.load false 1 (.t 32), some 33, none⟩,
      ⟨.faddr 1 (.t 1), some 34, none⟩,
      ⟨.load false 1 (.t 34), some 35, none⟩,
      ⟨.mv (.t 5), some 36, none⟩,
      ⟨.iaddr 37 (.t 35) (.t 36), some 37, none⟩,
      ⟨.faddr 0 (.t 37), some 38, none⟩,
      ⟨.faddr 1 (.t 38), some 39, none⟩,
      ⟨.load false 1 (.t 39), some 40, none⟩,
      ⟨.build (Je default) [(0, 1, (.t 27)), (1, 1, (.t 33)), (2, 1, (.t 40))], some 41, none⟩,
      ⟨.lits false 3 1 (Je default) [(0, (.t 41))], some 42, none⟩,
      ⟨.app 3 24 (Je default) (.t 26) (.t 42), some 43, none⟩,
      ⟨.mv (.t 43), some 3, none⟩])
  (.skip)))))))
  (.keep [1, 3, 4] Jap))
def J3D : Jn := .seq (.reg false [] [⟨.mv (.t 3), some 44, none⟩,
    ⟨.mv (.t 44), some 2, none⟩])
  (.ret)
def J5G : Jn := .seq (.reg false [] [⟨.box 3 (.t 0), some 1, none⟩,
    ⟨.mv (.c (.p (.sl 3 []))), some 2, none⟩])
  (.seq (.seq (.reg false [] [⟨.load true 3 (.t 1), some 6, none⟩,
    ⟨.call J1n [(.t 6)] 0, some 7, none⟩,
    ⟨.un .not (.t 7), some 8, none⟩])
  (.keep [1, 8] (.cond (.t 8)
  (.seq (.reg false [] [⟨.mv (.c (.p (.sl 3 []))), some 2, none⟩])
    (.ret))
  (.skip))))
  (.seq (.reg false [] [⟨.mkarr 3 (.c (.p (.sl 3 []))), some 3, none⟩])
  (.seq (.seq (.reg false [] [⟨.mv (.c (.p (.i .i64 0))), some 4, none⟩])
  (.block 0 (.loop [1, 3, 4] J15)))
  (.keep [3] J3D))))
def J23 : AFn := ⟨1, 45, J5G, [.tmp 2], false⟩
def J7n : Jn := .seq (.reg false [] [⟨.box 3 (.t 0), some 2, none⟩,
    ⟨.mv (.c (.p (.i .i64 0))), some 4, none⟩])
  (.seq (.seq (.reg false [] [⟨.load true 3 (.t 2), some 5, none⟩,
    ⟨.call J1J [(.t 5)] 0, some 6, none⟩,
    ⟨.un .not (.t 6), some 7, none⟩])
  (.keep [1, 2, 7] (.cond (.t 7)
  (.seq (.reg false [] [⟨.mv (.c (.p (.i .i64 (-1)))), some 4, none⟩])
    (.ret))
  (.skip))))
  (.seq (.reg false [] [⟨.load true 3 (.t 2), some 8, none⟩,
    ⟨.mv (.t 1), some 9, none⟩,
    ⟨.call J3R [(.t 8), (.t 9)] 0, some 10, none⟩,
    ⟨.mv (.t 10), some 4, none⟩])
  (.ret)))
def J8v : AFn := ⟨2, 11, J7n, [.tmp 4], false⟩
def J6l : Jn := .seq (.reg false [] [⟨.box 3 (.t 0), some 2, none⟩,
    ⟨.mv (.c (.p (.i .i64 0))), some 4, none⟩])
  (.seq (.seq (.reg false [] [⟨.load true 3 (.t 2), some 5, none⟩,
    ⟨.call J1n [(.t 5)] 0, some 6, none⟩,
    ⟨.un .not (.t 6), some 7, none⟩])
  (.keep [1, 2, 7] (.cond (.t 7)
  (.seq (.reg false [] [⟨.mv (.c (.p (.i .i64 (-1)))), some 4, none⟩])
    (.ret))
  (.skip))))
  (.seq (.reg false [] [⟨.load true 3 (.t 2), some 8, none⟩,
    ⟨.mv (.t 1), some 9, none⟩,
    ⟨.call J38 [(.t 8), (.t 9)] 0, some 10, none⟩,
    ⟨.mv (.t 10), some 4, none⟩])
  (.ret)))
def J7w : AFn := ⟨2, 11, J6l, [.tmp 4], false⟩
def J88 : Jn := .seq (.reg false [] [⟨.box 3 (.t 0), some 2, none⟩,
    ⟨.newbox (J3 default), some 4, none⟩])
  (.seq (.seq (.reg false [] [⟨.load true 3 (.t 2), some 7, none⟩,
    ⟨.mv (.t 1), some 8, none⟩,
    ⟨.call J5k [(.t 7), (.t 8)] 0, some 9, none⟩,
    ⟨.mv (.t 9), some 5, none⟩])
  (.keep [2, 4, 5] (.seq (.reg false [] [⟨.mv (.t 5), some 10, none⟩,
    ⟨.bin .geq .plain (.t 10) (.c (.p (.i .i64 0))), some 11, none⟩])
  (.cond (.t 11)
  (.seq (.reg false [] [⟨.faddr 1 (.t 2), some 12, none⟩,
      ⟨.load false 1 (.t 12), some 13, none⟩,
      ⟨.mv (.t 5), some 14, none⟩,
      ⟨.iaddr 37 (.t 13) (.t 14), some 15, none⟩,
      ⟨.load true 37 (.t 15), some 16, none⟩,
      ⟨.newbox (J7 default), some 6, none⟩,
      ⟨.store 37 (.t 6) (.t 16), none, none⟩])
    (.keep [2, 4, 5, 6] (.seq (.reg false [] [⟨.faddr 36 (.t 6), some 17, none⟩,
      ⟨.store 1 (.t 17) (.c (.p (.b true))), none, none⟩])
    (.reg false [] [⟨.faddr 1 (.t 2), some 18, none⟩,
      ⟨.load false 1 (.t 18), some 19, none⟩,
      ⟨.mv (.t 5), some 20, none⟩,
      ⟨.load true 37 (.t 6), some 21, none⟩,
      ⟨.call J1s [(.t 19), (.t 20), (.t 21)] 0, some 22, none⟩,
      ⟨.faddr 1 (.t 2), some 23, none⟩,
      ⟨.store 1 (.t 23) (.t 22), none, none⟩]))))
  (.skip)))))
  (.seq (.reg false [] [⟨.load true 3 (.t 2), some 24, none⟩,
    ⟨.store 3 (.t 4) (.t 24), none, none⟩])
  (.ret)))
def J9G : AFn := ⟨2, 25, J88, [.cell 4 true 3], false⟩
def J7k : Jn := .seq (.reg false [] [⟨.box 3 (.t 0), some 2, none⟩,
    ⟨.newbox (J3 default), some 4, none⟩])
  (.seq (.reg false [] [⟨.load true 3 (.t 2), some 7, none⟩,
    ⟨.mv (.t 1), some 8, none⟩,
    ⟨.call J4r [(.t 7), (.t 8)] 0, some 9, none⟩,
    ⟨.mv (.t 9), some 5, none⟩])
  (.keep [2, 4, 5] (.seq (.seq (.reg false [] [⟨.mv (.t 5), some 10, none⟩,
    ⟨.bin .lss .plain (.t 10) (.c (.p (.i .i64 0))), some 11, none⟩])
  (.cond (.t 11)
  (.seq (.reg false [] [⟨.load true 3 (.t 2), some 12, none⟩,
      ⟨.store 3 (.t 4) (.t 12), none, none⟩])
    (.ret))
  (.skip)))
  (.seq (.reg false [] [⟨.faddr 1 (.t 2), some 13, none⟩,
    ⟨.load false 1 (.t 13), some 14, none⟩,
    ⟨.mv (.t 5), some 15, none⟩,
    ⟨.iaddr 37 (.t 14) (.t 15), some 16, none⟩,
    ⟨.load true 37 (.t 16), some 17, none⟩,
    ⟨.newbox (J7 default), some 6, none⟩,
    ⟨.store 37 (.t 6) (.t 17), none, none⟩])
  (.keep [2, 4, 5, 6] (.seq (.reg false [] [⟨.faddr 36 (.t 6), some 18, none⟩,
    ⟨.store 1 (.t 18) (.c (.p (.b true))), none, none⟩])
  (.seq (.reg false [] [⟨.load true 3 (.t 2), some 19, none⟩,
    ⟨.mv (.t 5), some 20, none⟩,
    ⟨.load true 37 (.t 6), some 21, none⟩,
    ⟨.call J5m [(.t 19), (.t 20), (.t 21)] 0, some 22, none⟩,
    ⟨.store 3 (.t 4) (.t 22), none, none⟩])
  (.ret))))))))
def J8x : AFn := ⟨2, 23, J7k, [.cell 4 true 3], false⟩
def Jbs : Jn := .seq (.reg false [] [⟨.load true 3 (.t 2), some 51, none⟩,
    ⟨.store 3 (.t 4) (.t 51), none, none⟩,
    ⟨.mv (.c (.p (.i .i64 0))), some 5, none⟩])
  (.ret)
def J9v : Jn := .seq (.seq (.reg false [] [⟨.faddr 2 (.t 2), some 44, none⟩,
    ⟨.load false 1 (.t 44), some 45, none⟩,
    ⟨.faddr 1 (.t 2), some 46, none⟩,
    ⟨.load false 1 (.t 46), some 47, none⟩,
    ⟨.len false (.t 47), some 48, none⟩,
    ⟨.bin .geq .plain (.t 45) (.t 48), some 49, none⟩])
  (.keep [2, 4, 49] (.cond (.t 49)
  (.reg false [] [⟨.faddr 2 (.t 2), some 50, none⟩,
      ⟨.store 1 (.t 50) (.c (.p (.i .i64 0))), none, none⟩])
  (.skip))))
  (.keep [2, 4] Jbs)
def J26 : Jn := .seq (.reg false [] [⟨.box 3 (.t 0), some 2, none⟩,
    ⟨.newbox (J3 default), some 4, none⟩,
    ⟨.mv (.c (.p (.i .i64 0))), some 5, none⟩])
  (.keep [1, 2, 4] (.seq (.seq (.reg false [] [⟨.load true 3 (.t 2), some 7, none⟩,
    ⟨.call J1n [(.t 7)] 0, some 8, none⟩,
    ⟨.un .not (.t 8), some 9, none⟩])
  (.keep [1, 2, 4, 9] (.cond (.t 9)
  (.seq (.reg false [] [⟨.build (J3 default) [], some 10, none⟩,
      ⟨.store 3 (.t 4) (.t 10), none, none⟩,
      ⟨.mv (.c (.p (.i .i64 15))), some 5, none⟩])
    (.ret))
  (.skip))))
  (.seq (.reg false [] [⟨.load true 3 (.t 2), some 11, none⟩,
    ⟨.mv (.t 1), some 12, none⟩,
    ⟨.call J38 [(.t 11), (.t 12)] 0, some 13, none⟩,
    ⟨.mv (.t 13), some 6, none⟩])
  (.keep [2, 4, 6] (.seq (.seq (.reg false [] [⟨.mv (.t 6), some 14, none⟩,
    ⟨.bin .lss .plain (.t 14) (.c (.p (.i .i64 0))), some 15, none⟩])
  (.cond (.t 15)
  (.seq (.reg false [] [⟨.build (J3 default) [], some 16, none⟩,
      ⟨.store 3 (.t 4) (.t 16), none, none⟩,
      ⟨.mv (.c (.p (.i .i64 18))), some 5, none⟩])
    (.ret))
  (.skip)))
  (.seq (.seq (.reg false [] [⟨.faddr 1 (.t 2), some 17, none⟩,
    ⟨.load false 1 (.t 17), some 18, none⟩,
    ⟨.mv (.t 6), some 19, none⟩,
    ⟨.iaddr 37 (.t 18) (.t 19), some 20, none⟩,
    ⟨.faddr 34 (.t 20), some 21, none⟩,
    ⟨.load false 1 (.t 21), some 22, none⟩])
  (.keep [2, 4, 6, 22] (.cond (.t 22)
  (.seq (.reg false [] [⟨.build (J3 default) [], some 23, none⟩,
      ⟨.store 3 (.t 4) (.t 23), none, none⟩,
      ⟨.mv (.c (.p (.i .i64 23))), some 5, none⟩])
    (.ret))
  (.skip))))
  (.seq (.reg true [(3, 6), (4, 6), (1, 9), (3, 9), (4, 9)] [⟨.faddr 1 (.t 2), some 24, none⟩,
    ⟨.load false 1 (.t 24), some 25, none⟩,
    ⟨.mv (.t 6), some 26, none⟩,
    ⟨.slice (.sl 37) (.t 25) none (some (.t 26)) none, some 27, none⟩,
    ⟨.appn 37 424 (J7 default) (.t 27), some 28, none⟩,
    ⟨.faddr 1 (.t 2), some 29, none⟩,
    ⟨.load false 1 (.t 29), some 30, none⟩,
    ⟨.mv (.t 6), some 31, none⟩,
    ⟨.bin .add .plain (.t 31) (.c (.p (.i .i64 1))), some 32, none⟩,
    ⟨.slice (.sl 37) (.t 30) (some (.t 32)) none none, some 33, none⟩,
    ⟨.app 37 424 (J7 default) (.t 28) (.t 33), some 34, none⟩,
    ⟨.faddr 1 (.t 2), some 35, none⟩,
    ⟨.store 1 (.t 35) (.t 34), none, none⟩])
  (.keep [2, 4, 6] (.seq (.seq (.reg false [] [⟨.mv (.t 6), some 36, none⟩,
    ⟨.faddr 2 (.t 2), some 37, none⟩,
    ⟨.load false 1 (.t 37), some 38, none⟩,
    ⟨.bin .lss .plain (.t 36) (.t 38), some 39, none⟩])
  (.keep [2, 4, 39] (.cond (.t 39)
  (.reg false [] [⟨.faddr 2 (.t 2), some 40, none⟩,
      ⟨.load false 1 (.t 40), some 41, none⟩,
      ⟨.bin .sub .plain (.t 41) (.c (.p (.i .i64 1))), some 42, none⟩,
      ⟨.faddr 2 (.t 2), some 43, none⟩,
      ⟨.store 1 (.t 43) (.t 42), none, none⟩])
  (.skip))))
  (.keep [2, 4] J9v))))))))))
def J5p : AFn := ⟨2, 52, J26, [.cell 4 true 3, .tmp 5], false⟩
def Jas : Jn := .seq (.reg false [] [⟨.load true 3 (.t 3), some 49, none⟩,
    ⟨.mv (.t 8), some 50, none⟩,
    ⟨.load true 37 (.t 9), some 51, none⟩,
    ⟨.call J5m [(.t 49), (.t 50), (.t 51)] 0, some 52, none⟩,
    ⟨.store 3 (.t 6) (.t 52), none, none⟩,
    ⟨.mv (.c (.p (.i .i64 0))), some 7, none⟩])
  (.ret)
def J0F : Jn := .seq (.reg false [] [⟨.box 3 (.t 0), some 3, none⟩,
    ⟨.newbox (J3 default), some 6, none⟩,
    ⟨.mv (.c (.p (.i .i64 0))), some 7, none⟩])
  (.keep [1, 2, 3, 6] (.seq (.seq (.reg false [] [⟨.load true 3 (.t 3), some 10, none⟩,
    ⟨.call J1n [(.t 10)] 0, some 11, none⟩,
    ⟨.un .not (.t 11), some 12, none⟩])
  (.keep [1, 2, 3, 6, 12] (.cond (.t 12)
  (.seq (.reg false [] [⟨.build (J3 default) [], some 13, none⟩,
      ⟨.store 3 (.t 6) (.t 13), none, none⟩,
      ⟨.mv (.c (.p (.i .i64 15))), some 7, none⟩])
    (.ret))
  (.skip))))
  (.seq (.reg false [] [⟨.load true 3 (.t 3), some 14, none⟩,
    ⟨.mv (.t 1), some 15, none⟩,
    ⟨.call J38 [(.t 14), (.t 15)] 0, some 16, none⟩,
    ⟨.mv (.t 16), some 8, none⟩])
  (.keep [2, 3, 6, 8] (.seq (.seq (.reg false [] [⟨.mv (.t 8), some 17, none⟩,
    ⟨.bin .lss .plain (.t 17) (.c (.p (.i .i64 0))), some 18, none⟩])
  (.cond (.t 18)
  (.seq (.reg false [] [⟨.build (J3 default) [], some 19, none⟩,
      ⟨.store 3 (.t 6) (.t 19), none, none⟩,
      ⟨.mv (.c (.p (.i .i64 18))), some 7, none⟩])
    (.ret))
  (.skip)))
  (.seq (.reg false [] [⟨.faddr 1 (.t 3), some 20, none⟩,
    ⟨.load false 1 (.t 20), some 21, none⟩,
    ⟨.mv (.t 8), some 22, none⟩,
    ⟨.iaddr 37 (.t 21) (.t 22), some 23, none⟩,
    ⟨.load true 37 (.t 23), some 24, none⟩,
    ⟨.newbox (J7 default), some 9, none⟩,
    ⟨.store 37 (.t 9) (.t 24), none, none⟩])
  (.keep [2, 3, 6, 8, 9] (.seq (.seq (.reg false [] [⟨.mv (.t 2), some 25, none⟩,
    ⟨.faddr 0 (.t 9), some 26, none⟩,
    ⟨.faddr 1 (.t 26), some 27, none⟩,
    ⟨.load false 1 (.t 27), some 28, none⟩,
    ⟨.bin .gtr .plain (.t 25) (.t 28), some 29, none⟩])
  (.keep [2, 3, 6, 8, 9, 29] (.cond (.t 29)
  (.seq (.reg false [] [⟨.build (J3 default) [], some 30, none⟩,
      ⟨.store 3 (.t 6) (.t 30), none, none⟩,
      ⟨.mv (.c (.p (.i .i64 9))), some 7, none⟩])
    (.ret))
  (.skip))))
  (.seq (.seq (.reg false [] [⟨.faddr 34 (.t 9), some 31, none⟩,
    ⟨.load false 1 (.t 31), some 32, none⟩,
    ⟨.un .not (.t 32), some 33, none⟩])
  (.keep [2, 3, 6, 8, 9, 33] (.cond (.t 33)
  (.seq (.reg false [] [⟨.load true 3 (.t 3), some 34, none⟩,
      ⟨.store 3 (.t 6) (.t 34), none, none⟩,
      ⟨.mv (.c (.p (.i .i64 0))), some 7, none⟩])
    (.ret))
  (.skip))))
  (.seq (.seq (.reg false [] [⟨.faddr 0 (.t 9), some 35, none⟩,
    ⟨.faddr 1 (.t 35), some 36, none⟩,
    ⟨.load false 1 (.t 36), some 37, none⟩,
    ⟨.mv (.t 2), some 38, none⟩,
    ⟨.bin .eql .plain (.t 37) (.t 38), some 39, none⟩])
  (.keep [2, 3, 6, 8, 9, 39] (.cond (.t 39)
  (.reg false [] [⟨.faddr 34 (.t 9), some 40, none⟩,
      ⟨.store 1 (.t 40) (.c (.p (.b false))), none, none⟩,
      ⟨.faddr 35 (.t 9), some 41, none⟩,
      ⟨.store 1 (.t 41) (.c (.p (.i .i64 0))), none, none⟩])
  (.seq (.reg false [] [⟨.faddr 35 (.t 9), some 42, none⟩,
      ⟨.load false 1 (.t 42), some 43, none⟩,
      ⟨.mv (.t 2), some 44, none⟩,
      ⟨.bin .leq .plain (.t 43) (.t 44), some 45, none⟩])
    (.keep [2, 3, 6, 8, 9, 45] (.cond (.t 45)
    (.reg false [] [⟨.mv (.t 2), some 46, none⟩,
        ⟨.bin .add .plain (.t 46) (.c (.p (.i .i64 1))), some 47, none⟩,
        ⟨.faddr 35 (.t 9), some 48, none⟩,
        ⟨.store 1 (.t 48) (.t 47), none, none⟩])
    (.skip)))))))
  (.keep [3, 6, 8, 9] Jas)))))))))))
def J5H : AFn := ⟨3, 53, J0F, [.cell 6 true 3, .tmp 7], false⟩
def J2V : Jn := .seq (.seq (.reg false [] [⟨.faddr 1 (.t 1), some 20, none⟩,
    ⟨.load false 1 (.t 20), some 21, none⟩,
    ⟨.faddr 2 (.t 1), some 22, none⟩,
    ⟨.load false 1 (.t 22), some 23, none⟩,
    ⟨.iaddr 37 (.t 21) (.t 23), some 24, none⟩,
    ⟨.faddr 36 (.t 24), some 25, none⟩,
    ⟨.load false 1 (.t 25), some 26, none⟩])
  (.keep [1, 2, 26] (.cond (.t 26)
  (.skip)
  (.exit 1))))
  (.block 2 (.seq (.reg false [] [⟨.faddr 1 (.t 1), some 27, none⟩,
    ⟨.load false 1 (.t 27), some 28, none⟩,
    ⟨.faddr 2 (.t 1), some 29, none⟩,
    ⟨.load false 1 (.t 29), some 30, none⟩,
    ⟨.iaddr 37 (.t 28) (.t 30), some 31, none⟩,
    ⟨.faddr 36 (.t 31), some 32, none⟩,
    ⟨.store 1 (.t 32) (.c (.p (.b false))), none, none⟩])
  (.keep [1, 2] (.reg false [] [⟨.faddr 2 (.t 1), some 33, none⟩,
    ⟨.load false 1 (.t 33), some 34, none⟩,
    ⟨.bin .add .plain (.t 34) (.c (.p (.i .i64 1))), some 35, none⟩,
    ⟨.faddr 1 (.t 1), some 36, none⟩,
    ⟨.load false 1 (.t 36), some 37, none⟩,
    ⟨.len false (.t 37), some 38, none⟩,
    ⟨.bin .rem .plain (.t 35) (.t 38), some 39, none⟩,
    ⟨.faddr 2 (.t 1), some 40, none⟩,
    ⟨.store 1 (.t 40) (.t 39), none, none⟩]))))
def J48 : Jn := .seq (.reg true [(2, 9), (4, 9), (5, 9), (8, 9)] [⟨.load true 3 (.t 1), some 41, none⟩,
    ⟨.faddr 1 (.t 1), some 42, none⟩,
    ⟨.load false 1 (.t 42), some 43, none⟩,
    ⟨.faddr 2 (.t 1), some 44, none⟩,
    ⟨.load false 1 (.t 44), some 45, none⟩,
    ⟨.iaddr 37 (.t 43) (.t 45), some 46, none⟩,
    ⟨.faddr 0 (.t 46), some 47, none⟩,
    ⟨.faddr 0 (.t 47), some 48, none⟩,
    ⟨.load false 1 (.t 48), some 49, none⟩,
    ⟨.store 3 (.t 2) (.t 41), none, none⟩,
    ⟨.mv (.t 49), some 3, none⟩,
    ⟨.mv (.c (.p (.i .i64 0))), some 4, none⟩])
  (.ret)
def J3V : Jn := .seq (.reg false [] [⟨.box 3 (.t 0), some 1, none⟩,
    ⟨.newbox (J3 default), some 2, none⟩,
    ⟨.mv (.c (.p (.i .i64 0))), some 3, none⟩,
    ⟨.mv (.c (.p (.i .i64 0))), some 4, none⟩])
  (.keep [1, 2] (.seq (.block 0 (.seq (.reg false [] [⟨.load true 3 (.t 1), some 6, none⟩,
    ⟨.call J1J [(.t 6)] 0, some 7, none⟩,
    ⟨.un .not (.t 7), some 8, none⟩,
    ⟨.mv (.t 8), some 5, none⟩])
  (.keep [1, 2, 5] (.cond (.t 5)
  (.seq (.reg false [] [⟨.build (J3 default) [], some 9, none⟩,
      ⟨.store 3 (.t 2) (.t 9), none, none⟩,
      ⟨.mv (.c (.p (.i .i64 0))), some 3, none⟩,
      ⟨.mv (.c (.p (.i .i64 15))), some 4, none⟩])
    (.ret))
  (.seq (.reg false [] [⟨.faddr 1 (.t 1), some 11, none⟩,
      ⟨.load false 1 (.t 11), some 12, none⟩,
      ⟨.len false (.t 12), some 13, none⟩,
      ⟨.bin .eql .plain (.t 13) (.c (.p (.i .i64 0))), some 14, none⟩,
      ⟨.mv (.t 14), some 10, none⟩])
    (.keep [1, 2, 10] (.cond (.t 10)
    (.seq (.reg false [] [⟨.build (J3 default) [], some 15, none⟩,
        ⟨.store 3 (.t 2) (.t 15), none, none⟩,
        ⟨.mv (.c (.p (.i .i64 0))), some 3, none⟩,
        ⟨.mv (.c (.p (.i .i64 18))), some 4, none⟩])
      (.ret))
    (.skip))))))))
  (.seq (.reg false [] [⟨.faddr 1 (.t 1), some 16, none⟩,
    ⟨.load false 1 (.t 16), some 17, none⟩,
    ⟨.call JT [(.t 17)] 1, some 18, none⟩,
    ⟨.faddr 1 (.t 1), some 19, none⟩,
    ⟨.store 1 (.t 19) (.t 18), none, none⟩])
  (.keep [1, 2] (.seq (.block 1 (.loop [1, 2] J2V))
  (.keep [1, 2] J48))))))
def J2p : AFn := ⟨1, 50, J3V, [.cell 2 true 3, .tmp 3, .tmp 4], false⟩
def J2m : Jn := .seq (.seq (.reg false [] [⟨.faddr 1 (.t 1), some 15, none⟩,
    ⟨.load false 1 (.t 15), some 16, none⟩,
    ⟨.faddr 2 (.t 1), some 17, none⟩,
    ⟨.load false 1 (.t 17), some 18, none⟩,
    ⟨.iaddr 37 (.t 16) (.t 18), some 19, none⟩,
    ⟨.faddr 36 (.t 19), some 20, none⟩,
    ⟨.load false 1 (.t 20), some 21, none⟩])
  (.keep [1, 2, 21] (.cond (.t 21)
  (.skip)
  (.exit 0))))
  (.block 1 (.seq (.reg false [] [⟨.faddr 1 (.t 1), some 22, none⟩,
    ⟨.load false 1 (.t 22), some 23, none⟩,
    ⟨.faddr 2 (.t 1), some 24, none⟩,
    ⟨.load false 1 (.t 24), some 25, none⟩,
    ⟨.iaddr 37 (.t 23) (.t 25), some 26, none⟩,
    ⟨.load true 37 (.t 26), some 27, none⟩,
    ⟨.newbox (J7 default), some 5, none⟩,
    ⟨.store 37 (.t 5) (.t 27), none, none⟩])
  (.keep [1, 2, 5] (.seq (.reg false [] [⟨.faddr 36 (.t 5), some 28, none⟩,
    ⟨.store 1 (.t 28) (.c (.p (.b false))), none, none⟩])
  (.seq (.reg false [] [⟨.load true 3 (.t 1), some 29, none⟩,
    ⟨.faddr 2 (.t 1), some 30, none⟩,
    ⟨.load false 1 (.t 30), some 31, none⟩,
    ⟨.load true 37 (.t 5), some 32, none⟩,
    ⟨.call J5m [(.t 29), (.t 31), (.t 32)] 0, some 33, none⟩,
    ⟨.store 3 (.t 1) (.t 33), none, none⟩])
  (.keep [1, 2] (.reg false [] [⟨.faddr 2 (.t 1), some 34, none⟩,
    ⟨.load false 1 (.t 34), some 35, none⟩,
    ⟨.bin .add .plain (.t 35) (.c (.p (.i .i64 1))), some 36, none⟩,
    ⟨.faddr 1 (.t 1), some 37, none⟩,
    ⟨.load false 1 (.t 37), some 38, none⟩,
    ⟨.len false (.t 38), some 39, none⟩,
    ⟨.bin .rem .plain (.t 36) (.t 39), some 40, none⟩,
    ⟨.faddr 2 (.t 1), some 41, none⟩,
    ⟨.store 1 (.t 41) (.t 40), none, none⟩])))))))
def J40 : Jn := .seq (.reg true [(2, 9), (4, 9), (5, 9), (8, 9)] [⟨.load true 3 (.t 1), some 42, none⟩,
    ⟨.faddr 1 (.t 1), some 43, none⟩,
    ⟨.load false 1 (.t 43), some 44, none⟩,
    ⟨.faddr 2 (.t 1), some 45, none⟩,
    ⟨.load false 1 (.t 45), some 46, none⟩,
    ⟨.iaddr 37 (.t 44) (.t 46), some 47, none⟩,
    ⟨.faddr 0 (.t 47), some 48, none⟩,
    ⟨.faddr 0 (.t 48), some 49, none⟩,
    ⟨.load false 1 (.t 49), some 50, none⟩,
    ⟨.store 3 (.t 2) (.t 42), none, none⟩,
    ⟨.mv (.t 50), some 3, none⟩,
    ⟨.mv (.c (.p (.i .i64 0))), some 4, none⟩])
  (.ret)
def J3f : Jn := .seq (.reg false [] [⟨.box 3 (.t 0), some 1, none⟩,
    ⟨.newbox (J3 default), some 2, none⟩,
    ⟨.mv (.c (.p (.i .i64 0))), some 3, none⟩,
    ⟨.mv (.c (.p (.i .i64 0))), some 4, none⟩])
  (.keep [1, 2] (.seq (.seq (.reg false [] [⟨.load true 3 (.t 1), some 6, none⟩,
    ⟨.call J1n [(.t 6)] 0, some 7, none⟩,
    ⟨.un .not (.t 7), some 8, none⟩])
  (.keep [1, 2, 8] (.cond (.t 8)
  (.seq (.reg false [] [⟨.build (J3 default) [], some 9, none⟩,
      ⟨.store 3 (.t 2) (.t 9), none, none⟩,
      ⟨.mv (.c (.p (.i .i64 0))), some 3, none⟩,
      ⟨.mv (.c (.p (.i .i64 15))), some 4, none⟩])
    (.ret))
  (.skip))))
  (.seq (.seq (.reg false [] [⟨.faddr 1 (.t 1), some 10, none⟩,
    ⟨.load false 1 (.t 10), some 11, none⟩,
    ⟨.len false (.t 11), some 12, none⟩,
    ⟨.bin .eql .plain (.t 12) (.c (.p (.i .i64 0))), some 13, none⟩])
  (.keep [1, 2, 13] (.cond (.t 13)
  (.seq (.reg false [] [⟨.build (J3 default) [], some 14, none⟩,
      ⟨.store 3 (.t 2) (.t 14), none, none⟩,
      ⟨.mv (.c (.p (.i .i64 0))), some 3, none⟩,
      ⟨.mv (.c (.p (.i .i64 18))), some 4, none⟩])
    (.ret))
  (.skip))))
  (.seq (.tidy [1, 2, 3, 4] (.block 0 (.loop [1, 2] J2m)))
  (.keep [1, 2] J40)))))
def J2a : AFn := ⟨1, 51, J3f, [.cell 2 true 3, .tmp 3, .tmp 4], false⟩
def J3T : Jn := .seq (.reg false [] [⟨.box 34 (.t 0), some 1, none⟩,
    ⟨.mv (.c (.p (.i .i64 0))), some 2, none⟩])
  (.seq (.block 0 (.seq (.reg false [] [⟨.load true 34 (.t 1), some 4, none⟩,
    ⟨.call J4q [(.t 4)] 0, some 5, none⟩,
    ⟨.un .not (.t 5), some 6, none⟩,
    ⟨.mv (.t 6), some 3, none⟩])
  (.keep [1, 3] (.cond (.t 3)
  (.seq (.reg false [] [⟨.mv (.c (.p (.i .i64 1))), some 2, none⟩])
    (.ret))
  (.seq (.reg false [] [⟨.load true 34 (.t 1), some 8, none⟩,
      ⟨.call J5A [(.t 8)] 0, some 9, none⟩,
      ⟨.un .not (.t 9), some 10, none⟩,
      ⟨.mv (.t 10), some 7, none⟩])
    (.keep [7] (.cond (.t 7)
    (.seq (.reg false [] [⟨.mv (.c (.p (.i .i64 22))), some 2, none⟩])
      (.ret))
    (.skip))))))))
  (.seq (.reg false [] [⟨.mv (.c (.p (.i .i64 0))), some 2, none⟩])
  (.ret)))
def J6Q : AFn := ⟨1, 11, J3T, [.tmp 2], false⟩
def JaG : Jn := .seq (.reg false [] [⟨.box 3 (.t 0), some 2, none⟩,
    ⟨.box 3 (.t 1), some 3, none⟩,
    ⟨.mv (.c (.p (.i .i64 0))), some 4, none⟩])
  (.keep [2, 3] (.seq (.reg false [] [⟨.faddr 0 (.t 2), some 5, none⟩,
    ⟨.load false 1 (.t 5), some 6, none⟩,
    ⟨.faddr 0 (.t 3), some 7, none⟩,
    ⟨.load false 1 (.t 7), some 8, none⟩,
    ⟨.call J9Q [(.t 6), (.t 8)] 0, some 9, none⟩,
    ⟨.mv (.t 9), some 4, none⟩])
  (.ret)))
def Jd2 : AFn := ⟨2, 10, JaG, [.tmp 4], false⟩
def J3g : Jn := .seq (.reg false [] [⟨.box 3 (.t 0), some 2, none⟩,
    ⟨.box 34 (.t 1), some 3, none⟩,
    ⟨.newbox (J3 default), some 4, none⟩,
    ⟨.mv (.c (.p (.i .i64 0))), some 5, none⟩])
  (.keep [2, 3, 4] (.seq (.seq (.reg false [] [⟨.load true 3 (.t 2), some 8, none⟩,
    ⟨.call J1J [(.t 8)] 0, some 9, none⟩,
    ⟨.un .not (.t 9), some 10, none⟩])
  (.keep [2, 3, 4, 10] (.cond (.t 10)
  (.seq (.reg false [] [⟨.build (J3 default) [], some 11, none⟩,
      ⟨.store 3 (.t 4) (.t 11), none, none⟩,
      ⟨.mv (.c (.p (.i .i64 15))), some 5, none⟩])
    (.ret))
  (.skip))))
  (.seq (.reg false [] [⟨.load true 34 (.t 3), some 13, none⟩,
    ⟨.call J5F [(.t 13)] 0, some 14, none⟩,
    ⟨.mv (.t 14), some 12, none⟩,
    ⟨.extr (.t 12) 0, some 15, none⟩,
    ⟨.extr (.t 12) 1, some 16, none⟩,
    ⟨.mv (.t 15), some 6, none⟩,
    ⟨.mv (.t 16), some 7, none⟩])
  (.keep [2, 3, 4, 7] (.seq (.block 0 (.seq (.reg false [] [⟨.mv (.t 7), some 18, none⟩,
    ⟨.bin .neq .plain (.t 18) (.c (.p (.i .i64 0))), some 19, none⟩,
    ⟨.mv (.t 19), some 17, none⟩])
  (.keep [2, 3, 4, 7, 17] (.cond (.t 17)
  (.seq (.reg false [] [⟨.build (J3 default) [], some 20, none⟩,
      ⟨.mv (.t 7), some 21, none⟩,
      ⟨.store 3 (.t 4) (.t 20), none, none⟩,
      ⟨.mv (.t 21), some 5, none⟩])
    (.ret))
  (.seq (.reg false [] [⟨.load true 3 (.t 2), some 23, none⟩,
      ⟨.faddr 0 (.t 3), some 24, none⟩,
      ⟨.load false 1 (.t 24), some 25, none⟩,
      ⟨.call J3R [(.t 23), (.t 25)] 0, some 26, none⟩,
      ⟨.bin .geq .plain (.t 26) (.c (.p (.i .i64 0))), some 27, none⟩,
      ⟨.mv (.t 27), some 22, none⟩])
    (.keep [2, 3, 4, 22] (.cond (.t 22)
    (.seq (.reg false [] [⟨.build (J3 default) [], some 28, none⟩,
        ⟨.store 3 (.t 4) (.t 28), none, none⟩,
        ⟨.mv (.c (.p (.i .i64 25))), some 5, none⟩])
      (.ret))
    (.seq (.reg false [] [⟨.faddr 1 (.t 2), some 30, none⟩,
        ⟨.load false 1 (.t 30), some 31, none⟩,
        ⟨.len false (.t 31), some 32, none⟩,
        ⟨.faddr 0 (.t 2), some 33, none⟩,
        ⟨.load false 1 (.t 33), some 34, none⟩,
        ⟨.bin .eql .plain (.t 32) (.t 34), some 35, none⟩,
        ⟨.mv (.t 35), some 29, none⟩])
      (.keep [2, 3, 4, 29] (.cond (.t 29)
      (.seq (.reg false [] [⟨.build (J3 default) [], some 36, none⟩,
          ⟨.store 3 (.t 4) (.t 36), none, none⟩,
          ⟨.mv (.c (.p (.i .i64 21))), some 5, none⟩])
        (.ret))
      (.skip)))))))))))
  (.seq (.reg true [(2, 3), (1, 5), (2, 5)] [⟨.faddr 1 (.t 2), some 37, none⟩,
    ⟨.load false 1 (.t 37), some 38, none⟩,
    ⟨.call J0o [(.t 38)] 0, some 39, none⟩,
    ⟨.load true 34 (.t 3), some 40, none⟩,
    ⟨.build (J7 default) [(0, 34, (.t 40)), (36, 1, (.c (.p (.b true))))], some 41, none⟩,
    ⟨.lits false 37 1 (J7 default) [(0, (.t 41))], some 42, none⟩,
    ⟨.appc 37 424 (J7 default) (.t 39) (.t 42), some 43, none⟩,
    ⟨.faddr 1 (.t 2), some 44, none⟩,
    ⟨.store 1 (.t 44) (.t 43), none, none⟩])
  (.keep [2, 4] (.seq (.reg false [] [⟨.load true 3 (.t 2), some 45, none⟩,
    ⟨.store 3 (.t 4) (.t 45), none, none⟩,
    ⟨.mv (.c (.p (.i .i64 0))), some 5, none⟩])
  (.ret)))))))))
def J9q : AFn := ⟨2, 46, J3g, [.cell 4 true 3, .tmp 5], false⟩
def JaV : Jn := .seq (.reg false [] [⟨.faddr 1 (.t 2), some 62, none⟩,
    ⟨.load false 1 (.t 62), some 63, none⟩,
    ⟨.mv (.t 8), some 64, none⟩,
    ⟨.load true 37 (.t 9), some 65, none⟩,
    ⟨.call J1s [(.t 63), (.t 64), (.t 65)] 0, some 66, none⟩,
    ⟨.faddr 1 (.t 2), some 67, none⟩,
    ⟨.store 1 (.t 67) (.t 66), none, none⟩])
  (.keep [2, 4] (.seq (.reg false [] [⟨.load true 3 (.t 2), some 68, none⟩,
    ⟨.store 3 (.t 4) (.t 68), none, none⟩,
    ⟨.mv (.c (.p (.i .i64 0))), some 5, none⟩])
  (.ret)))
def J1b : Jn := .seq (.reg false [] [⟨.box 3 (.t 0), some 2, none⟩,
    ⟨.box 34 (.t 1), some 3, none⟩,
    ⟨.newbox (J3 default), some 4, none⟩,
    ⟨.mv (.c (.p (.i .i64 0))), some 5, none⟩])
  (.keep [2, 3, 4] (.seq (.seq (.reg false [] [⟨.load true 3 (.t 2), some 10, none⟩,
    ⟨.call J1J [(.t 10)] 0, some 11, none⟩,
    ⟨.un .not (.t 11), some 12, none⟩])
  (.keep [2, 3, 4, 12] (.cond (.t 12)
  (.seq (.reg false [] [⟨.build (J3 default) [], some 13, none⟩,
      ⟨.store 3 (.t 4) (.t 13), none, none⟩,
      ⟨.mv (.c (.p (.i .i64 15))), some 5, none⟩])
    (.ret))
  (.skip))))
  (.seq (.reg false [] [⟨.load true 34 (.t 3), some 15, none⟩,
    ⟨.call J5F [(.t 15)] 0, some 16, none⟩,
    ⟨.mv (.t 16), some 14, none⟩,
    ⟨.extr (.t 14) 0, some 17, none⟩,
    ⟨.extr (.t 14) 1, some 18, none⟩,
    ⟨.mv (.t 17), some 6, none⟩,
    ⟨.mv (.t 18), some 7, none⟩])
  (.keep [2, 3, 4, 7] (.seq (.reg false [] [⟨.load true 3 (.t 2), some 19, none⟩,
    ⟨.faddr 0 (.t 3), some 20, none⟩,
    ⟨.load false 1 (.t 20), some 21, none⟩,
    ⟨.call J3R [(.t 19), (.t 21)] 0, some 22, none⟩,
    ⟨.mv (.t 22), some 8, none⟩])
  (.keep [2, 3, 4, 7, 8] (.seq (.block 0 (.seq (.reg false [] [⟨.mv (.t 7), some 24, none⟩,
    ⟨.bin .neq .plain (.t 24) (.c (.p (.i .i64 0))), some 25, none⟩,
    ⟨.mv (.t 25), some 23, none⟩])
  (.keep [2, 3, 4, 7, 8, 23] (.cond (.t 23)
  (.seq (.reg false [] [⟨.build (J3 default) [], some 26, none⟩,
      ⟨.mv (.t 7), some 27, none⟩,
      ⟨.store 3 (.t 4) (.t 26), none, none⟩,
      ⟨.mv (.t 27), some 5, none⟩])
    (.ret))
  (.seq (.reg false [] [⟨.mv (.t 8), some 29, none⟩,
      ⟨.bin .lss .plain (.t 29) (.c (.p (.i .i64 0))), some 30, none⟩,
      ⟨.mv (.t 30), some 28, none⟩])
    (.keep [2, 3, 4, 8, 28] (.cond (.t 28)
    (.seq (.reg false [] [⟨.build (J3 default) [], some 31, none⟩,
        ⟨.store 3 (.t 4) (.t 31), none, none⟩,
        ⟨.mv (.c (.p (.i .i64 18))), some 5, none⟩])
      (.ret))
    (.seq (.reg true [] [⟨.faddr 1 (.t 3), some 33, none⟩,
        ⟨.load false 1 (.t 33), some 34, none⟩,
        ⟨.faddr 1 (.t 2), some 35, none⟩,
        ⟨.load false 1 (.t 35), some 36, none⟩,
        ⟨.mv (.t 8), some 37, none⟩,
        ⟨.iaddr 37 (.t 36) (.t 37), some 38, none⟩,
        ⟨.faddr 0 (.t 38), some 39, none⟩,
        ⟨.faddr 1 (.t 39), some 40, none⟩,
        ⟨.load false 1 (.t 40), some 41, none⟩,
        ⟨.bin .leq .plain (.t 34) (.t 41), some 42, none⟩,
        ⟨.mv (.t 42), some 32, none⟩])
      (.keep [2, 3, 4, 8, 32] (.cond (.t 32)
      (.seq (.reg false [] [⟨.build (J3 default) [], some 43, none⟩,
          ⟨.store 3 (.t 4) (.t 43), none, none⟩,
          ⟨.mv (.c (.p (.i .i64 8))), some 5, none⟩])
        (.ret))
      (.skip)))))))))))
  (.seq (.reg true [(0, 8), (2, 8), (4, 8), (6, 8)] [⟨.load true 34 (.t 3), some 44, none⟩,
    ⟨.faddr 1 (.t 2), some 45, none⟩,
    ⟨.load false 1 (.t 45), some 46, none⟩,
    ⟨.mv (.t 8), some 47, none⟩,
    ⟨.iaddr 37 (.t 46) (.t 47), some 48, none⟩,
    ⟨.faddr 35 (.t 48), some 49, none⟩,
    ⟨.load false 1 (.t 49), some 50, none⟩,
    ⟨.build (J7 default) [(0, 34, (.t 44)), (34, 1, (.c (.p (.b true)))), (35, 1, (.t 50)), (36, 1, (.c (.p (.b true))))], some 51, none⟩,
    ⟨.newbox (J7 default), some 9, none⟩,
    ⟨.store 37 (.t 9) (.t 51), none, none⟩])
  (.keep [2, 3, 4, 8, 9] (.seq (.seq (.reg false [] [⟨.faddr 1 (.t 2), some 52, none⟩,
    ⟨.load false 1 (.t 52), some 53, none⟩,
    ⟨.mv (.t 8), some 54, none⟩,
    ⟨.iaddr 37 (.t 53) (.t 54), some 55, none⟩,
    ⟨.faddr 34 (.t 55), some 56, none⟩,
    ⟨.load false 1 (.t 56), some 57, none⟩,
    ⟨.un .not (.t 57), some 58, none⟩])
  (.keep [2, 3, 4, 8, 9, 58] (.cond (.t 58)
  (.reg false [] [⟨.faddr 1 (.t 3), some 59, none⟩,
      ⟨.load false 1 (.t 59), some 60, none⟩,
      ⟨.faddr 35 (.t 9), some 61, none⟩,
      ⟨.store 1 (.t 61) (.t 60), none, none⟩])
  (.skip))))
  (.keep [2, 4, 8, 9] JaV)))))))))))
def J5C : AFn := ⟨2, 69, J1b, [.cell 4 true 3, .tmp 5], false⟩
def Jbt : Jn := .seq (.reg false [] [⟨.faddr 1 (.t 3), some 53, none⟩,
    ⟨.load false 1 (.t 53), some 54, none⟩,
    ⟨.mv (.t 8), some 55, none⟩,
    ⟨.load true 37 (.t 9), some 56, none⟩,
    ⟨.call J1s [(.t 54), (.t 55), (.t 56)] 0, some 57, none⟩,
    ⟨.faddr 1 (.t 3), some 58, none⟩,
    ⟨.store 1 (.t 58) (.t 57), none, none⟩])
  (.keep [3, 6] (.seq (.reg false [] [⟨.load true 3 (.t 3), some 59, none⟩,
    ⟨.store 3 (.t 6) (.t 59), none, none⟩,
    ⟨.mv (.c (.p (.i .i64 0))), some 7, none⟩])
  (.ret)))
def J11 : Jn := .seq (.reg false [] [⟨.box 3 (.t 0), some 3, none⟩,
    ⟨.newbox (J3 default), some 6, none⟩,
    ⟨.mv (.c (.p (.i .i64 0))), some 7, none⟩])
  (.keep [1, 2, 3, 6] (.seq (.seq (.reg false [] [⟨.load true 3 (.t 3), some 10, none⟩,
    ⟨.call J1J [(.t 10)] 0, some 11, none⟩,
    ⟨.un .not (.t 11), some 12, none⟩])
  (.keep [1, 2, 3, 6, 12] (.cond (.t 12)
  (.seq (.reg false [] [⟨.build (J3 default) [], some 13, none⟩,
      ⟨.store 3 (.t 6) (.t 13), none, none⟩,
      ⟨.mv (.c (.p (.i .i64 15))), some 7, none⟩])
    (.ret))
  (.skip))))
  (.seq (.reg false [] [⟨.load true 3 (.t 3), some 14, none⟩,
    ⟨.mv (.t 1), some 15, none⟩,
    ⟨.call J3R [(.t 14), (.t 15)] 0, some 16, none⟩,
    ⟨.mv (.t 16), some 8, none⟩])
  (.keep [2, 3, 6, 8] (.seq (.seq (.reg false [] [⟨.mv (.t 8), some 17, none⟩,
    ⟨.bin .lss .plain (.t 17) (.c (.p (.i .i64 0))), some 18, none⟩])
  (.cond (.t 18)
  (.seq (.reg false [] [⟨.build (J3 default) [], some 19, none⟩,
      ⟨.store 3 (.t 6) (.t 19), none, none⟩,
      ⟨.mv (.c (.p (.i .i64 18))), some 7, none⟩])
    (.ret))
  (.skip)))
  (.seq (.reg false [] [⟨.faddr 1 (.t 3), some 20, none⟩,
    ⟨.load false 1 (.t 20), some 21, none⟩,
    ⟨.mv (.t 8), some 22, none⟩,
    ⟨.iaddr 37 (.t 21) (.t 22), some 23, none⟩,
    ⟨.load true 37 (.t 23), some 24, none⟩,
    ⟨.newbox (J7 default), some 9, none⟩,
    ⟨.store 37 (.t 9) (.t 24), none, none⟩])
  (.keep [2, 3, 6, 8, 9] (.seq (.block 0 (.seq (.reg false [] [⟨.mv (.t 2), some 26, none⟩,
    ⟨.faddr 0 (.t 9), some 27, none⟩,
    ⟨.faddr 1 (.t 27), some 28, none⟩,
    ⟨.load false 1 (.t 28), some 29, none⟩,
    ⟨.bin .gtr .plain (.t 26) (.t 29), some 30, none⟩,
    ⟨.mv (.t 30), some 25, none⟩])
  (.keep [2, 3, 6, 8, 9, 25] (.cond (.t 25)
  (.seq (.reg false [] [⟨.build (J3 default) [], some 31, none⟩,
      ⟨.store 3 (.t 6) (.t 31), none, none⟩,
      ⟨.mv (.c (.p (.i .i64 9))), some 7, none⟩])
    (.ret))
  (.seq (.reg false [] [⟨.faddr 34 (.t 9), some 33, none⟩,
      ⟨.load false 1 (.t 33), some 34, none⟩,
      ⟨.un .not (.t 34), some 35, none⟩,
      ⟨.mv (.t 35), some 32, none⟩])
    (.keep [2, 3, 6, 8, 9, 32] (.cond (.t 32)
    (.seq (.reg false [] [⟨.load true 3 (.t 3), some 36, none⟩,
        ⟨.store 3 (.t 6) (.t 36), none, none⟩,
        ⟨.mv (.c (.p (.i .i64 0))), some 7, none⟩])
      (.ret))
    (.seq (.reg false [] [⟨.mv (.t 2), some 38, none⟩,
        ⟨.faddr 0 (.t 9), some 39, none⟩,
        ⟨.faddr 1 (.t 39), some 40, none⟩,
        ⟨.load false 1 (.t 40), some 41, none⟩,
        ⟨.bin .eql .plain (.t 38) (.t 41), some 42, none⟩,
        ⟨.mv (.t 42), some 37, none⟩])
      (.keep [2, 3, 6, 8, 9, 37] (.cond (.t 37)
      (.reg false [] [⟨.faddr 34 (.t 9), some 43, none⟩,
          ⟨.store 1 (.t 43) (.c (.p (.b false))), none, none⟩,
          ⟨.faddr 35 (.t 9), some 44, none⟩,
          ⟨.store 1 (.t 44) (.c (.p (.i .i64 0))), none, none⟩])
      (.seq (.reg false [] [⟨.faddr 35 (.t 9), some 46, none⟩,
          ⟨.load false 1 (.t 46), some 47, none⟩,
          ⟨.mv (.t 2), some 48, none⟩,
          ⟨.bin .leq .plain (.t 47) (.t 48), some 49, none⟩,
          ⟨.mv (.t 49), some 45, none⟩])
        (.keep [2, 3, 6, 8, 9, 45] (.cond (.t 45)
        (.reg false [] [⟨.mv (.t 2), some 50, none⟩,
            ⟨.bin .add .plain (.t 50) (.c (.p (.i .i64 1))), some 51, none⟩,
            ⟨.faddr 35 (.t 9), some 52, none⟩,
            ⟨.store 1 (.t 52) (.t 51), none, none⟩])
        (.skip))))))))))))))
  (.keep [3, 6, 8, 9] Jbt)))))))))
def J6m : AFn := ⟨3, 60, J11, [.cell 6 true 3, .tmp 7], false⟩
def J2u : Jn := .seq (.reg false [] [⟨.bin .lss .plain (.t 12) (.t 11), some 13, none⟩])
  (.seq (.cond (.t 13)
  (.skip)
  (.exit 0))
  (.seq (.block 1 (.seq (.reg false [] [⟨.iaddr 37 (.t 10) (.t 12), some 14, none⟩,
    ⟨.load true 37 (.t 14), some 15, none⟩,
    ⟨.newbox (J7 default), some 5, none⟩,
    ⟨.store 37 (.t 5) (.t 15), none, none⟩])
  (.keep [3, 5, 10, 11, 12] (.seq (.reg false [] [⟨.faddr 34 (.t 5), some 16, none⟩,
    ⟨.load false 1 (.t 16), some 17, none⟩])
  (.cond (.t 17)
  (.reg false [] [⟨.mv (.t 3), some 18, none⟩,
      ⟨.faddr 0 (.t 5), some 19, none⟩,
      ⟨.faddr 0 (.t 19), some 20, none⟩,
      ⟨.load false 1 (.t 20), some 21, none⟩,
      ⟨.faddr 35 (.t 5), some 22, none⟩,
      ⟨.load false 1 (.t 22), some 23, none⟩,
      ⟨.faddr 0 (.t 5), some 24, none⟩,
      ⟨.faddr 1 (.t 24), some 25, none⟩,
      ⟨.load false 1 (.t 25), some 26, none⟩,
      ⟨.build (Je default) [(0, 1, (.t 21)), (1, 1, (.t 23)), (2, 1, (.t 26))], some 27, none⟩,
      ⟨.lits false 3 1 (Je default) [(0, (.t 27))], some 28, none⟩,
      ⟨.app 3 24 (Je default) (.t 18) (.t 28), some 29, none⟩,
      ⟨.mv (.t 29), some 3, none⟩])
  (.skip))))))
  (.reg false [] [⟨.bin .add .plain (.t 12) (.c (.p (.i .i64 1))), some 30, none⟩,
    ⟨.mv (.t 30), some 12, none⟩])))
def J52 : Jn := .seq (.reg false [] [⟨.mv (.t 3), some 31, none⟩,
    ⟨.callo J0R [true] [(.t 31), (.c (.fn J8S [] []))] 0, some 32, none⟩])
  (.seq (.reg false [] [⟨.mv (.t 3), some 33, none⟩,
    ⟨.mv (.t 33), some 2, none⟩])
  (.ret))
def J6o : Jn := .seq (.reg false [] [⟨.box 3 (.t 0), some 1, none⟩,
    ⟨.mv (.c (.p (.sl 3 []))), some 2, none⟩])
  (.seq (.seq (.reg false [] [⟨.load true 3 (.t 1), some 6, none⟩,
    ⟨.call J1J [(.t 6)] 0, some 7, none⟩,
    ⟨.un .not (.t 7), some 8, none⟩])
  (.keep [1, 8] (.cond (.t 8)
  (.seq (.reg false [] [⟨.mv (.c (.p (.sl 3 []))), some 2, none⟩])
    (.ret))
  (.skip))))
  (.seq (.reg false [] [⟨.mkarr 3 (.c (.p (.sl 3 []))), some 3, none⟩])
  (.seq (.tidy [2, 3] (.seq (.reg false [] [⟨.faddr 1 (.t 1), some 9, none⟩,
    ⟨.load false 1 (.t 9), some 10, none⟩,
    ⟨.len false (.t 10), some 11, none⟩,
    ⟨.mv (.c (.p (.i .i64 0))), some 12, none⟩])
  (.keep [3, 10, 11, 12] (.block 0 (.loop [3, 10, 11, 12] J2u)))))
  (.keep [3] J52))))
def J36 : AFn := ⟨1, 34, J6o, [.tmp 2], false⟩
def JbX : Jn := .seq (.reg false [] [⟨.load true 3 (.t 2), some 49, none⟩,
    ⟨.store 3 (.t 4) (.t 49), none, none⟩,
    ⟨.mv (.c (.p (.i .i64 0))), some 5, none⟩])
  (.ret)
def Ja9 : Jn := .seq (.seq (.reg false [] [⟨.faddr 2 (.t 2), some 42, none⟩,
    ⟨.load false 1 (.t 42), some 43, none⟩,
    ⟨.faddr 1 (.t 2), some 44, none⟩,
    ⟨.load false 1 (.t 44), some 45, none⟩,
    ⟨.len false (.t 45), some 46, none⟩,
    ⟨.bin .geq .plain (.t 43) (.t 46), some 47, none⟩])
  (.keep [2, 4, 47] (.cond (.t 47)
  (.reg false [] [⟨.faddr 2 (.t 2), some 48, none⟩,
      ⟨.store 1 (.t 48) (.c (.p (.i .i64 0))), none, none⟩])
  (.skip))))
  (.keep [2, 4] JbX)
def J2z : Jn := .seq (.reg false [] [⟨.box 3 (.t 0), some 2, none⟩,
    ⟨.newbox (J3 default), some 4, none⟩,
    ⟨.mv (.c (.p (.i .i64 0))), some 5, none⟩])
  (.keep [1, 2, 4] (.seq (.seq (.reg false [] [⟨.load true 3 (.t 2), some 7, none⟩,
    ⟨.call J1J [(.t 7)] 0, some 8, none⟩,
    ⟨.un .not (.t 8), some 9, none⟩])
  (.keep [1, 2, 4, 9] (.cond (.t 9)
  (.seq (.reg false [] [⟨.build (J3 default) [], some 10, none⟩,
      ⟨.store 3 (.t 4) (.t 10), none, none⟩,
      ⟨.mv (.c (.p (.i .i64 15))), some 5, none⟩])
    (.ret))
  (.skip))))
  (.seq (.reg false [] [⟨.load true 3 (.t 2), some 11, none⟩,
    ⟨.mv (.t 1), some 12, none⟩,
    ⟨.call J3R [(.t 11), (.t 12)] 0, some 13, none⟩,
    ⟨.mv (.t 13), some 6, none⟩])
  (.keep [2, 4, 6] (.seq (.block 0 (.seq (.reg false [] [⟨.mv (.t 6), some 15, none⟩,
    ⟨.bin .lss .plain (.t 15) (.c (.p (.i .i64 0))), some 16, none⟩,
    ⟨.mv (.t 16), some 14, none⟩])
  (.keep [2, 4, 6, 14] (.cond (.t 14)
  (.seq (.reg false [] [⟨.build (J3 default) [], some 17, none⟩,
      ⟨.store 3 (.t 4) (.t 17), none, none⟩,
      ⟨.mv (.c (.p (.i .i64 18))), some 5, none⟩])
    (.ret))
  (.seq (.reg false [] [⟨.faddr 1 (.t 2), some 19, none⟩,
      ⟨.load false 1 (.t 19), some 20, none⟩,
      ⟨.mv (.t 6), some 21, none⟩,
      ⟨.iaddr 37 (.t 20) (.t 21), some 22, none⟩,
      ⟨.faddr 34 (.t 22), some 23, none⟩,
      ⟨.load false 1 (.t 23), some 24, none⟩,
      ⟨.mv (.t 24), some 18, none⟩])
    (.keep [2, 4, 6, 18] (.cond (.t 18)
    (.seq (.reg false [] [⟨.build (J3 default) [], some 25, none⟩,
        ⟨.store 3 (.t 4) (.t 25), none, none⟩,
        ⟨.mv (.c (.p (.i .i64 23))), some 5, none⟩])
      (.ret))
    (.skip))))))))
  (.seq (.reg false [] [⟨.faddr 1 (.t 2), some 26, none⟩,
    ⟨.load false 1 (.t 26), some 27, none⟩,
    ⟨.call JT [(.t 27)] 1, some 28, none⟩,
    ⟨.mv (.t 6), some 29, none⟩,
    ⟨.mv (.t 6), some 30, none⟩,
    ⟨.bin .add .plain (.t 30) (.c (.p (.i .i64 1))), some 31, none⟩,
    ⟨.callo J16 [true] [(.t 28), (.t 29), (.t 31)] 0, some 32, none⟩,
    ⟨.faddr 1 (.t 2), some 33, none⟩,
    ⟨.store 1 (.t 33) (.t 32), none, none⟩])
  (.keep [2, 4, 6] (.seq (.seq (.reg false [] [⟨.mv (.t 6), some 34, none⟩,
    ⟨.faddr 2 (.t 2), some 35, none⟩,
    ⟨.load false 1 (.t 35), some 36, none⟩,
    ⟨.bin .lss .plain (.t 34) (.t 36), some 37, none⟩])
  (.keep [2, 4, 37] (.cond (.t 37)
  (.reg false [] [⟨.faddr 2 (.t 2), some 38, none⟩,
      ⟨.load false 1 (.t 38), some 39, none⟩,
      ⟨.bin .sub .plain (.t 39) (.c (.p (.i .i64 1))), some 40, none⟩,
      ⟨.faddr 2 (.t 2), some 41, none⟩,
      ⟨.store 1 (.t 41) (.t 40), none, none⟩])
  (.skip))))
  (.keep [2, 4] Ja9)))))))))
def J63 : AFn := ⟨2, 50, J2z, [.cell 4 true 3, .tmp 5], false⟩
def J86 : Jn := .seq (.reg false [] [⟨.box 3 (.t 0), some 2, none⟩,
    ⟨.newbox (J9 default), some 4, none⟩,
    ⟨.mv (.c (.p (.b false))), some 5, none⟩])
  (.keep [1, 2, 4] (.seq (.seq (.reg false [] [⟨.load true 3 (.t 2), some 7, none⟩,
    ⟨.mv (.t 1), some 8, none⟩,
    ⟨.call J5k [(.t 7), (.t 8)] 0, some 9, none⟩,
    ⟨.mv (.t 9), some 6, none⟩])
  (.keep [2, 4, 6] (.seq (.reg false [] [⟨.mv (.t 6), some 10, none⟩,
    ⟨.bin .geq .plain (.t 10) (.c (.p (.i .i64 0))), some 11, none⟩])
  (.cond (.t 11)
  (.seq (.reg false [] [⟨.faddr 1 (.t 2), some 12, none⟩,
      ⟨.load false 1 (.t 12), some 13, none⟩,
      ⟨.mv (.t 6), some 14, none⟩,
      ⟨.iaddr 37 (.t 13) (.t 14), some 15, none⟩,
      ⟨.faddr 0 (.t 15), some 16, none⟩,
      ⟨.load true 34 (.t 16), some 17, none⟩,
      ⟨.store 34 (.t 4) (.t 17), none, none⟩,
      ⟨.mv (.c (.p (.b true))), some 5, none⟩])
    (.ret))
  (.skip)))))
  (.seq (.reg false [] [⟨.build (J9 default) [], some 18, none⟩,
    ⟨.store 34 (.t 4) (.t 18), none, none⟩,
    ⟨.mv (.c (.p (.b false))), some 5, none⟩])
  (.ret))))
def J9j : AFn := ⟨2, 19, J86, [.cell 4 true 34, .tmp 5], false⟩
def J7h : Jn := .seq (.reg false [] [⟨.box 3 (.t 0), some 2, none⟩,
    ⟨.newbox (J9 default), some 4, none⟩,
    ⟨.mv (.c (.p (.b false))), some 5, none⟩])
  (.keep [1, 2, 4] (.seq (.reg false [] [⟨.load true 3 (.t 2), some 7, none⟩,
    ⟨.mv (.t 1), some 8, none⟩,
    ⟨.call J4r [(.t 7), (.t 8)] 0, some 9, none⟩,
    ⟨.mv (.t 9), some 6, none⟩])
  (.keep [2, 4, 6] (.seq (.seq (.reg false [] [⟨.mv (.t 6), some 10, none⟩,
    ⟨.bin .lss .plain (.t 10) (.c (.p (.i .i64 0))), some 11, none⟩])
  (.cond (.t 11)
  (.seq (.reg false [] [⟨.build (J9 default) [], some 12, none⟩,
      ⟨.store 34 (.t 4) (.t 12), none, none⟩,
      ⟨.mv (.c (.p (.b false))), some 5, none⟩])
    (.ret))
  (.skip)))
  (.seq (.reg false [] [⟨.faddr 1 (.t 2), some 13, none⟩,
    ⟨.load false 1 (.t 13), some 14, none⟩,
    ⟨.mv (.t 6), some 15, none⟩,
    ⟨.iaddr 37 (.t 14) (.t 15), some 16, none⟩,
    ⟨.faddr 0 (.t 16), some 17, none⟩,
    ⟨.load true 34 (.t 17), some 18, none⟩,
    ⟨.store 34 (.t 4) (.t 18), none, none⟩,
    ⟨.mv (.c (.p (.b true))), some 5, none⟩])
  (.ret))))))
def J8u : AFn := ⟨2, 19, J7h, [.cell 4 true 34, .tmp 5], false⟩
def J2t : Jn := .seq (.reg false [] [⟨.box 3 (.t 0), some 2, none⟩,
    ⟨.box 34 (.t 1), some 3, none⟩,
    ⟨.newbox (J3 default), some 4, none⟩,
    ⟨.mv (.c (.p (.i .i64 0))), some 5, none⟩])
  (.keep [2, 3, 4] (.seq (.seq (.reg false [] [⟨.load true 3 (.t 2), some 7, none⟩,
    ⟨.call J1n [(.t 7)] 0, some 8, none⟩,
    ⟨.un .not (.t 8), some 9, none⟩])
  (.keep [2, 3, 4, 9] (.cond (.t 9)
  (.seq (.reg false [] [⟨.build (J3 default) [], some 10, none⟩,
      ⟨.store 3 (.t 4) (.t 10), none, none⟩,
      ⟨.mv (.c (.p (.i .i64 15))), some 5, none⟩])
    (.ret))
  (.skip))))
  (.seq (.seq (.reg false [] [⟨.load true 34 (.t 3), some 11, none⟩,
    ⟨.call J5B [(.t 11)] 0, some 12, none⟩,
    ⟨.mv (.t 12), some 6, none⟩])
  (.keep [2, 3, 4, 6] (.seq (.reg false [] [⟨.mv (.t 6), some 13, none⟩,
    ⟨.bin .neq .plain (.t 13) (.c (.p (.i .i64 0))), some 14, none⟩])
  (.cond (.t 14)
  (.seq (.reg false [] [⟨.build (J3 default) [], some 15, none⟩,
      ⟨.mv (.t 6), some 16, none⟩,
      ⟨.store 3 (.t 4) (.t 15), none, none⟩,
      ⟨.mv (.t 16), some 5, none⟩])
    (.ret))
  (.skip)))))
  (.seq (.seq (.reg false [] [⟨.load true 3 (.t 2), some 17, none⟩,
    ⟨.faddr 0 (.t 3), some 18, none⟩,
    ⟨.load false 1 (.t 18), some 19, none⟩,
    ⟨.call J38 [(.t 17), (.t 19)] 0, some 20, none⟩,
    ⟨.bin .geq .plain (.t 20) (.c (.p (.i .i64 0))), some 21, none⟩])
  (.keep [2, 3, 4, 21] (.cond (.t 21)
  (.seq (.reg false [] [⟨.build (J3 default) [], some 22, none⟩,
      ⟨.store 3 (.t 4) (.t 22), none, none⟩,
      ⟨.mv (.c (.p (.i .i64 25))), some 5, none⟩])
    (.ret))
  (.skip))))
  (.seq (.seq (.reg false [] [⟨.faddr 1 (.t 2), some 23, none⟩,
    ⟨.load false 1 (.t 23), some 24, none⟩,
    ⟨.len false (.t 24), some 25, none⟩,
    ⟨.faddr 0 (.t 2), some 26, none⟩,
    ⟨.load false 1 (.t 26), some 27, none⟩,
    ⟨.bin .eql .plain (.t 25) (.t 27), some 28, none⟩])
  (.keep [2, 3, 4, 28] (.cond (.t 28)
  (.seq (.reg false [] [⟨.build (J3 default) [], some 29, none⟩,
      ⟨.store 3 (.t 4) (.t 29), none, none⟩,
      ⟨.mv (.c (.p (.i .i64 21))), some 5, none⟩])
    (.ret))
  (.skip))))
  (.seq (.reg true [(2, 3), (1, 5), (2, 5)] [⟨.faddr 1 (.t 2), some 30, none⟩,
    ⟨.load false 1 (.t 30), some 31, none⟩,
    ⟨.appn 37 424 (J7 default) (.t 31), some 32, none⟩,
    ⟨.load true 34 (.t 3), some 33, none⟩,
    ⟨.build (J7 default) [(0, 34, (.t 33)), (36, 1, (.c (.p (.b true))))], some 34, none⟩,
    ⟨.lits false 37 1 (J7 default) [(0, (.t 34))], some 35, none⟩,
    ⟨.app 37 424 (J7 default) (.t 32) (.t 35), some 36, none⟩,
    ⟨.faddr 1 (.t 2), some 37, none⟩,
    ⟨.store 1 (.t 37) (.t 36), none, none⟩])
  (.keep [2, 4] (.seq (.reg false [] [⟨.load true 3 (.t 2), some 38, none⟩,
    ⟨.store 3 (.t 4) (.t 38), none, none⟩,
    ⟨.mv (.c (.p (.i .i64 0))), some 5, none⟩])
  (.ret)))))))))
def J8q : AFn := ⟨2, 39, J2t, [.cell 4 true 3, .tmp 5], false⟩
def Jae : Jn := .seq (.reg false [] [⟨.load true 34 (.t 3), some 44, none⟩,
    ⟨.faddr 0 (.t 8), some 45, none⟩,
    ⟨.store 34 (.t 45) (.t 44), none, none⟩,
    ⟨.faddr 34 (.t 8), some 46, none⟩,
    ⟨.store 1 (.t 46) (.c (.p (.b true))), none, none⟩,
    ⟨.faddr 36 (.t 8), some 47, none⟩,
    ⟨.store 1 (.t 47) (.c (.p (.b true))), none, none⟩])
  (.keep [2, 4, 7, 8] (.seq (.reg false [] [⟨.load true 3 (.t 2), some 48, none⟩,
    ⟨.mv (.t 7), some 49, none⟩,
    ⟨.load true 37 (.t 8), some 50, none⟩,
    ⟨.call J5m [(.t 48), (.t 49), (.t 50)] 0, some 51, none⟩,
    ⟨.store 3 (.t 4) (.t 51), none, none⟩,
    ⟨.mv (.c (.p (.i .i64 0))), some 5, none⟩])
  (.ret)))
def J0N : Jn := .seq (.reg false [] [⟨.box 3 (.t 0), some 2, none⟩,
    ⟨.box 34 (.t 1), some 3, none⟩,
    ⟨.newbox (J3 default), some 4, none⟩,
    ⟨.mv (.c (.p (.i .i64 0))), some 5, none⟩])
  (.keep [2, 3, 4] (.seq (.seq (.reg false [] [⟨.load true 3 (.t 2), some 9, none⟩,
    ⟨.call J1n [(.t 9)] 0, some 10, none⟩,
    ⟨.un .not (.t 10), some 11, none⟩])
  (.keep [2, 3, 4, 11] (.cond (.t 11)
  (.seq (.reg false [] [⟨.build (J3 default) [], some 12, none⟩,
      ⟨.store 3 (.t 4) (.t 12), none, none⟩,
      ⟨.mv (.c (.p (.i .i64 15))), some 5, none⟩])
    (.ret))
  (.skip))))
  (.seq (.seq (.reg false [] [⟨.load true 34 (.t 3), some 13, none⟩,
    ⟨.call J5B [(.t 13)] 0, some 14, none⟩,
    ⟨.mv (.t 14), some 6, none⟩])
  (.keep [2, 3, 4, 6] (.seq (.reg false [] [⟨.mv (.t 6), some 15, none⟩,
    ⟨.bin .neq .plain (.t 15) (.c (.p (.i .i64 0))), some 16, none⟩])
  (.cond (.t 16)
  (.seq (.reg false [] [⟨.build (J3 default) [], some 17, none⟩,
      ⟨.mv (.t 6), some 18, none⟩,
      ⟨.store 3 (.t 4) (.t 17), none, none⟩,
      ⟨.mv (.t 18), some 5, none⟩])
    (.ret))
  (.skip)))))
  (.seq (.reg false [] [⟨.load true 3 (.t 2), some 19, none⟩,
    ⟨.faddr 0 (.t 3), some 20, none⟩,
    ⟨.load false 1 (.t 20), some 21, none⟩,
    ⟨.call J38 [(.t 19), (.t 21)] 0, some 22, none⟩,
    ⟨.mv (.t 22), some 7, none⟩])
  (.keep [2, 3, 4, 7] (.seq (.seq (.reg false [] [⟨.mv (.t 7), some 23, none⟩,
    ⟨.bin .lss .plain (.t 23) (.c (.p (.i .i64 0))), some 24, none⟩])
  (.cond (.t 24)
  (.seq (.reg false [] [⟨.build (J3 default) [], some 25, none⟩,
      ⟨.store 3 (.t 4) (.t 25), none, none⟩,
      ⟨.mv (.c (.p (.i .i64 18))), some 5, none⟩])
    (.ret))
  (.skip)))
  (.seq (.reg false [] [⟨.faddr 1 (.t 2), some 26, none⟩,
    ⟨.load false 1 (.t 26), some 27, none⟩,
    ⟨.mv (.t 7), some 28, none⟩,
    ⟨.iaddr 37 (.t 27) (.t 28), some 29, none⟩,
    ⟨.load true 37 (.t 29), some 30, none⟩,
    ⟨.newbox (J7 default), some 8, none⟩,
    ⟨.store 37 (.t 8) (.t 30), none, none⟩])
  (.keep [2, 3, 4, 7, 8] (.seq (.seq (.reg false [] [⟨.faddr 1 (.t 3), some 31, none⟩,
    ⟨.load false 1 (.t 31), some 32, none⟩,
    ⟨.faddr 0 (.t 8), some 33, none⟩,
    ⟨.faddr 1 (.t 33), some 34, none⟩,
    ⟨.load false 1 (.t 34), some 35, none⟩,
    ⟨.bin .leq .plain (.t 32) (.t 35), some 36, none⟩])
  (.keep [2, 3, 4, 7, 8, 36] (.cond (.t 36)
  (.seq (.reg false [] [⟨.build (J3 default) [], some 37, none⟩,
      ⟨.store 3 (.t 4) (.t 37), none, none⟩,
      ⟨.mv (.c (.p (.i .i64 8))), some 5, none⟩])
    (.ret))
  (.skip))))
  (.seq (.seq (.reg false [] [⟨.faddr 34 (.t 8), some 38, none⟩,
    ⟨.load false 1 (.t 38), some 39, none⟩,
    ⟨.un .not (.t 39), some 40, none⟩])
  (.keep [2, 3, 4, 7, 8, 40] (.cond (.t 40)
  (.reg false [] [⟨.faddr 1 (.t 3), some 41, none⟩,
      ⟨.load false 1 (.t 41), some 42, none⟩,
      ⟨.faddr 35 (.t 8), some 43, none⟩,
      ⟨.store 1 (.t 43) (.t 42), none, none⟩])
  (.skip))))
  (.keep [2, 3, 4, 7, 8] Jae)))))))))))
def J51 : AFn := ⟨2, 52, J0N, [.cell 4 true 3, .tmp 5], false⟩
def J0q : Jn := .seq (.reg false [] [⟨.mv (.c (.p (.b false))), some 0, none⟩])
  (.seq (.reg false [] [⟨.call J82 [(.c (.p (.i .i64 2)))] 0, some 8, none⟩,
    ⟨.mv (.t 8), some 7, none⟩,
    ⟨.extr (.t 7) 0, some 9, none⟩,
    ⟨.extr (.t 7) 1, some 10, none⟩,
    ⟨.newbox (J3 default), some 1, none⟩,
    ⟨.store 3 (.t 1) (.t 9), none, none⟩,
    ⟨.mv (.t 10), some 2, none⟩])
  (.keep [1, 2] (.seq (.reg false [] [⟨.load true 3 (.t 1), some 12, none⟩,
    ⟨.build (J9 default) [(0, 1, (.c (.p (.i .i64 1))))], some 13, none⟩,
    ⟨.call J6Z [(.t 12), (.t 13)] 0, some 14, none⟩,
    ⟨.mv (.t 14), some 11, none⟩,
    ⟨.extr (.t 11) 0, some 15, none⟩,
    ⟨.extr (.t 11) 1, some 16, none⟩,
    ⟨.store 3 (.t 1) (.t 15), none, none⟩,
    ⟨.mv (.t 16), some 3, none⟩])
  (.keep [1, 2, 3] (.seq (.reg false [] [⟨.load true 3 (.t 1), some 18, none⟩,
    ⟨.build (J9 default) [(0, 1, (.c (.p (.i .i64 2))))], some 19, none⟩,
    ⟨.call J6Z [(.t 18), (.t 19)] 0, some 20, none⟩,
    ⟨.mv (.t 20), some 17, none⟩,
    ⟨.extr (.t 17) 0, some 21, none⟩,
    ⟨.extr (.t 17) 1, some 22, none⟩,
    ⟨.store 3 (.t 1) (.t 21), none, none⟩,
    ⟨.mv (.t 22), some 4, none⟩])
  (.keep [1, 2, 3, 4] (.seq (.reg false [] [⟨.load true 3 (.t 1), some 24, none⟩,
    ⟨.call J5J [(.t 24)] 0, some 25, none⟩,
    ⟨.mv (.t 25), some 23, none⟩,
    ⟨.extr (.t 23) 0, some 26, none⟩,
    ⟨.extr (.t 23) 1, some 27, none⟩,
    ⟨.extr (.t 23) 2, some 28, none⟩,
    ⟨.store 3 (.t 1) (.t 26), none, none⟩,
    ⟨.mv (.t 27), some 5, none⟩,
    ⟨.mv (.t 28), some 6, none⟩])
  (.keep [1, 2, 3, 4, 5, 6] (.seq (.reg false [] [⟨.mv (.t 2), some 29, none⟩,
    ⟨.bin .eql .plain (.t 29) (.c (.p (.i .i64 0))), some 30, none⟩,
    ⟨.mv (.t 30), some 31, none⟩,
    ⟨.mv (.t 3), some 32, some (31, true)⟩,
    ⟨.bin .eql .plain (.t 32) (.c (.p (.i .i64 0))), some 33, some (31, true)⟩,
    ⟨.pick (.t 31) (.t 33) (.c (.p (.b false))), some 34, none⟩,
    ⟨.mv (.t 34), some 35, none⟩,
    ⟨.mv (.t 4), some 36, some (35, true)⟩,
    ⟨.bin .eql .plain (.t 36) (.c (.p (.i .i64 0))), some 37, some (35, true)⟩,
    ⟨.pick (.t 35) (.t 37) (.c (.p (.b false))), some 38, none⟩,
    ⟨.mv (.t 38), some 39, none⟩,
    ⟨.mv (.t 6), some 40, some (39, true)⟩,
    ⟨.bin .eql .plain (.t 40) (.c (.p (.i .i64 0))), some 41, some (39, true)⟩,
    ⟨.pick (.t 39) (.t 41) (.c (.p (.b false))), some 42, none⟩,
    ⟨.mv (.t 42), some 43, none⟩,
    ⟨.mv (.t 5), some 44, some (43, true)⟩,
    ⟨.bin .eql .plain (.t 44) (.c (.p (.i .i64 1))), some 45, some (43, true)⟩,
    ⟨.pick (.t 43) (.t 45) (.c (.p (.b false))), some 46, none⟩,
    ⟨.mv (.t 46), some 47, none⟩,
    ⟨.faddr 1 (.t 1), some 48, some (47, true)⟩,
    ⟨.load false 1 (.t 48), some 49, some (47, true)⟩,
    ⟨.len false (.t 49), some 50, some (47, true)⟩,
    ⟨.bin .eql .plain (.t 50) (.c (.p (.i .i64 2))), some 51, some (47, true)⟩,
    ⟨.pick (.t 47) (.t 51) (.c (.p (.b false))), some 52, none⟩,
    ⟨.mv (.t 52), some 53, none⟩,
    ⟨.faddr 1 (.t 1), some 54, some (53, true)⟩,
    ⟨.load false 1 (.t 54), some 55, some (53, true)⟩,
    ⟨.iaddr 37 (.t 55) (.c (.p (.i .i64 0))), some 56, some (53, true)⟩,
    ⟨.faddr 36 (.t 56), some 57, some (53, true)⟩,
    ⟨.load false 1 (.t 57), some 58, some (53, true)⟩,
    ⟨.un .not (.t 58), some 59, some (53, true)⟩,
    ⟨.pick (.t 53) (.t 59) (.c (.p (.b false))), some 60, none⟩,
    ⟨.mv (.t 60), some 61, none⟩,
    ⟨.faddr 1 (.t 1), some 62, some (61, true)⟩,
    ⟨.load false 1 (.t 62), some 63, some (61, true)⟩,
    ⟨.iaddr 37 (.t 63) (.c (.p (.i .i64 1))), some 64, some (61, true)⟩,
    ⟨.faddr 36 (.t 64), some 65, some (61, true)⟩,
    ⟨.load false 1 (.t 65), some 66, some (61, true)⟩,
    ⟨.un .not (.t 66), some 67, some (61, true)⟩,
    ⟨.pick (.t 61) (.t 67) (.c (.p (.b false))), some 68, none⟩,
    ⟨.mv (.t 68), some 0, none⟩])
  (.ret))))))))))
def J6M : AFn := ⟨0, 69, J0q, [.tmp 0], false⟩
def J8H : Jn := .reg false [] [⟨.mv (.t 5), some 31, none⟩,
    ⟨.bin .sub .plain (.t 31) (.c (.p (.i .i64 1))), some 32, none⟩,
    ⟨.mv (.t 32), some 5, none⟩]
def JA : Jn := .seq (.seq (.reg false [] [⟨.mv (.t 5), some 29, none⟩,
    ⟨.bin .gtr .plain (.t 29) (.c (.p (.i .i64 0))), some 30, none⟩])
  (.cond (.t 30)
  (.skip)
  (.exit 0)))
  (.seq (.tidy [0, 2, 3, 5] (.block 1 (.seq (.reg false [] [⟨.mv (.t 0), some 33, none⟩,
    ⟨.call Jd [(.t 33), (.c (.p (.i .i64 6)))] 0, some 34, none⟩,
    ⟨.mv (.t 34), some 6, none⟩])
  (.keep [0, 2, 3, 5, 6] (.seq (.reg false [] [⟨.mv (.t 0), some 35, none⟩,
    ⟨.call Jd [(.t 35), (.c (.p (.i .i64 5)))] 0, some 36, none⟩])
  (.block 2 (.seq (.reg false [] [⟨.bin .eql .plain (.t 36) (.c (.p (.i .i64 0))), some 49, none⟩,
    ⟨.mv (.t 49), some 48, none⟩])
  (.cond (.t 48)
  (.seq (.reg false [] [⟨.load true 3 (.t 3), some 51, none⟩,
      ⟨.call J50 [(.t 51)] 0, some 52, none⟩,
      ⟨.mv (.t 52), some 50, none⟩,
      ⟨.extr (.t 50) 0, some 53, none⟩,
      ⟨.extr (.t 50) 1, some 54, none⟩,
      ⟨.extr (.t 50) 2, some 55, none⟩,
      ⟨.newbox (J3 default), some 7, none⟩,
      ⟨.store 3 (.t 7) (.t 53), none, none⟩,
      ⟨.mv (.t 54), some 8, none⟩,
      ⟨.mv (.t 55), some 9, none⟩])
    (.keep [0, 2, 3, 5, 7, 9] (.seq (.reg false [] [⟨.mv (.t 9), some 56, none⟩,
      ⟨.bin .eql .plain (.t 56) (.c (.p (.i .i64 0))), some 57, none⟩])
    (.cond (.t 57)
    (.reg false [] [⟨.load true 3 (.t 7), some 58, none⟩,
        ⟨.store 3 (.t 3) (.t 58), none, none⟩])
    (.skip)))))
  (.seq (.reg false [] [⟨.bin .eql .plain (.t 36) (.c (.p (.i .i64 1))), some 60, none⟩,
      ⟨.mv (.t 60), some 59, none⟩])
    (.cond (.t 59)
    (.seq (.reg false [] [⟨.load true 3 (.t 3), some 62, none⟩,
        ⟨.mv (.t 6), some 63, none⟩,
        ⟨.call J65 [(.t 62), (.t 63)] 0, some 64, none⟩,
        ⟨.mv (.t 64), some 61, none⟩,
        ⟨.extr (.t 61) 0, some 65, none⟩,
        ⟨.extr (.t 61) 1, some 66, none⟩,
        ⟨.newbox (J9 default), some 10, none⟩,
        ⟨.store 34 (.t 10) (.t 65), none, none⟩,
        ⟨.mv (.t 66), some 11, none⟩])
      (.keep [0, 2, 3, 5, 10, 11] (.seq (.reg false [] [⟨.mv (.t 11), some 67, none⟩])
      (.cond (.t 67)
      (.seq (.reg true [(1, 3)] [⟨.faddr 1 (.t 10), some 68, none⟩,
          ⟨.load false 1 (.t 68), some 69, none⟩,
          ⟨.mv (.t 0), some 70, none⟩,
          ⟨.call Jd [(.t 70), (.c (.p (.i .i64 3)))] 0, some 71, none⟩,
          ⟨.bin .add .plain (.c (.p (.i .i64 1))) (.t 71), some 72, none⟩,
          ⟨.bin .add .plain (.t 69) (.t 72), some 73, none⟩,
          ⟨.faddr 1 (.t 10), some 74, none⟩,
          ⟨.store 1 (.t 74) (.t 73), none, none⟩])
        (.keep [0, 2, 3, 5, 10] (.seq (.reg false [] [⟨.load true 3 (.t 3), some 76, none⟩,
          ⟨.load true 34 (.t 10), some 77, none⟩,
          ⟨.call J56 [(.t 76), (.t 77)] 0, some 78, none⟩,
          ⟨.mv (.t 78), some 75, none⟩,
          ⟨.extr (.t 75) 0, some 79, none⟩,
          ⟨.extr (.t 75) 1, some 80, none⟩,
          ⟨.newbox (J3 default), some 12, none⟩,
          ⟨.store 3 (.t 12) (.t 79), none, none⟩,
          ⟨.mv (.t 80), some 13, none⟩])
        (.keep [0, 2, 3, 5, 12, 13] (.seq (.reg false [] [⟨.mv (.t 13), some 81, none⟩,
          ⟨.bin .eql .plain (.t 81) (.c (.p (.i .i64 0))), some 82, none⟩])
        (.cond (.t 82)
        (.reg false [] [⟨.load true 3 (.t 12), some 83, none⟩,
            ⟨.store 3 (.t 3) (.t 83), none, none⟩])
        (.skip)))))))
      (.skip)))))
    (.seq (.reg false [] [⟨.bin .eql .plain (.t 36) (.c (.p (.i .i64 2))), some 85, none⟩,
        ⟨.mv (.t 85), some 84, none⟩])
      (.cond (.t 84)
      (.seq (.reg false [] [⟨.load true 3 (.t 3), some 87, none⟩,
          ⟨.mv (.t 6), some 88, none⟩,
          ⟨.call J65 [(.t 87), (.t 88)] 0, some 89, none⟩,
          ⟨.mv (.t 89), some 86, none⟩,
          ⟨.extr (.t 86) 0, some 90, none⟩,
          ⟨.extr (.t 86) 1, some 91, none⟩,
          ⟨.newbox (J9 default), some 14, none⟩,
          ⟨.store 34 (.t 14) (.t 90), none, none⟩,
          ⟨.mv (.t 91), some 15, none⟩])
        (.keep [0, 2, 3, 5, 6, 14, 15] (.seq (.reg false [] [⟨.mv (.t 15), some 92, none⟩])
        (.cond (.t 92)
        (.seq (.reg true [(0, 5), (3, 5), (0, 11), (3, 11), (5, 11), (7, 11)] [⟨.load true 3 (.t 3), some 94, none⟩,
            ⟨.mv (.t 6), some 95, none⟩,
            ⟨.faddr 1 (.t 14), some 96, none⟩,
            ⟨.load false 1 (.t 96), some 97, none⟩,
            ⟨.mv (.t 0), some 98, none⟩,
            ⟨.call Jd [(.t 98), (.c (.p (.i .i64 2)))] 0, some 99, none⟩,
            ⟨.bin .sub .plain (.t 97) (.t 99), some 100, none⟩,
            ⟨.call J4O [(.t 94), (.t 95), (.t 100)] 0, some 101, none⟩,
            ⟨.mv (.t 101), some 93, none⟩,
            ⟨.extr (.t 93) 0, some 102, none⟩,
            ⟨.extr (.t 93) 1, some 103, none⟩,
            ⟨.newbox (J3 default), some 16, none⟩,
            ⟨.store 3 (.t 16) (.t 102), none, none⟩,
            ⟨.mv (.t 103), some 17, none⟩])
          (.keep [0, 2, 3, 5, 16, 17] (.seq (.reg false [] [⟨.mv (.t 17), some 104, none⟩,
            ⟨.bin .eql .plain (.t 104) (.c (.p (.i .i64 0))), some 105, none⟩])
          (.cond (.t 105)
          (.reg false [] [⟨.load true 3 (.t 16), some 106, none⟩,
              ⟨.store 3 (.t 3) (.t 106), none, none⟩])
          (.skip)))))
        (.skip)))))
      (.seq (.reg true [(0, 3), (0, 8), (3, 8), (4, 8)] [⟨.load true 3 (.t 3), some 38, none⟩,
          ⟨.mv (.t 0), some 39, none⟩,
          ⟨.mv (.t 6), some 40, none⟩,
          ⟨.call J1v [(.t 39), (.t 40)] 0, some 41, none⟩,
          ⟨.call J66 [(.t 38), (.t 41)] 0, some 42, none⟩,
          ⟨.mv (.t 42), some 37, none⟩,
          ⟨.extr (.t 37) 0, some 43, none⟩,
          ⟨.extr (.t 37) 1, some 44, none⟩,
          ⟨.newbox (J3 default), some 18, none⟩,
          ⟨.store 3 (.t 18) (.t 43), none, none⟩,
          ⟨.mv (.t 44), some 19, none⟩])
        (.keep [0, 2, 3, 5, 18, 19] (.seq (.reg false [] [⟨.mv (.t 19), some 45, none⟩,
          ⟨.bin .eql .plain (.t 45) (.c (.p (.i .i64 0))), some 46, none⟩])
        (.cond (.t 46)
        (.reg false [] [⟨.load true 3 (.t 18), some 47, none⟩,
            ⟨.store 3 (.t 3) (.t 47), none, none⟩])
        (.skip)))))))))))))))))
  (.keep [0, 2, 3, 5] J8H))
def J1U : Jn := .seq (.reg false [] [⟨.load true 3 (.t 3), some 107, none⟩,
    ⟨.store 3 (.t 2) (.t 107), none, none⟩])
  (.ret)
def J5S : Jn := .seq (.reg false [] [⟨.newbox (J3 default), some 2, none⟩])
  (.seq (.reg false [] [⟨.mv (.t 0), some 21, none⟩,
    ⟨.call Jd [(.t 21), (.c (.p (.i .i64 5)))] 0, some 22, none⟩,
    ⟨.bin .add .plain (.c (.p (.i .i64 1))) (.t 22), some 23, none⟩,
    ⟨.call J7f [(.t 23)] 0, some 24, none⟩,
    ⟨.mv (.t 24), some 20, none⟩,
    ⟨.extr (.t 20) 0, some 25, none⟩,
    ⟨.extr (.t 20) 1, some 26, none⟩,
    ⟨.newbox (J3 default), some 3, none⟩,
    ⟨.store 3 (.t 3) (.t 25), none, none⟩,
    ⟨.mv (.t 26), some 4, none⟩])
  (.keep [0, 2, 3] (.seq (.tidy [2, 3] (.seq (.reg false [] [⟨.mv (.t 0), some 27, none⟩,
    ⟨.call Jd [(.t 27), (.c (.p (.i .i64 10)))] 0, some 28, none⟩,
    ⟨.mv (.t 28), some 5, none⟩])
  (.keep [0, 2, 3, 5] (.block 0 (.loop [0, 2, 3, 5] JA)))))
  (.keep [2, 3] J1U))))
def J0T : AFn := ⟨1, 108, J5S, [.cell 2 true 3], false⟩
def J0u : Jn := .seq (.reg false [] [⟨.bin .lss .plain (.t 156) (.t 155), some 157, none⟩])
  (.seq (.cond (.t 157)
  (.skip)
  (.exit 4))
  (.seq (.block 5 (.seq (.reg false [] [⟨.iaddr 1 (.t 154) (.t 156), some 158, none⟩,
    ⟨.load false 1 (.t 158), some 159, none⟩,
    ⟨.mv (.t 159), some 26, none⟩])
  (.keep [3, 4, 7, 11, 14, 16, 19, 21, 23, 26, 60, 61, 62, 82, 83, 84, 154, 155, 156] (.seq (.reg false [] [⟨.load true 3 (.t 14), some 161, none⟩,
    ⟨.mv (.t 16), some 162, none⟩,
    ⟨.mv (.t 26), some 163, none⟩,
    ⟨.call J7K [(.t 161), (.t 162), (.t 163)] 0, some 164, none⟩,
    ⟨.mv (.t 164), some 160, none⟩,
    ⟨.extr (.t 160) 0, some 165, none⟩,
    ⟨.extr (.t 160) 1, some 166, none⟩,
    ⟨.store 3 (.t 21) (.t 165), none, none⟩,
    ⟨.mv (.t 166), some 22, none⟩])
  (.keep [3, 4, 7, 11, 14, 16, 19, 21, 22, 23, 26, 60, 61, 62, 82, 83, 84, 154, 155, 156] (.seq (.reg false [] [⟨.load true 3 (.t 14), some 168, none⟩,
    ⟨.mv (.t 16), some 169, none⟩,
    ⟨.mv (.t 26), some 170, none⟩,
    ⟨.call J4O [(.t 168), (.t 169), (.t 170)] 0, some 171, none⟩,
    ⟨.mv (.t 171), some 167, none⟩,
    ⟨.extr (.t 167) 0, some 172, none⟩,
    ⟨.extr (.t 167) 1, some 173, none⟩,
    ⟨.store 3 (.t 23) (.t 172), none, none⟩,
    ⟨.mv (.t 173), some 24, none⟩])
  (.keep [3, 4, 7, 11, 14, 16, 19, 21, 22, 23, 24, 60, 61, 62, 82, 83, 84, 154, 155, 156] (.seq (.reg false [] [⟨.mv (.t 22), some 174, none⟩,
    ⟨.mv (.t 24), some 175, none⟩,
    ⟨.bin .neq .plain (.t 174) (.t 175), some 176, none⟩,
    ⟨.mv (.t 176), some 177, none⟩,
    ⟨.load true 3 (.t 21), some 178, some (177, false)⟩,
    ⟨.load true 3 (.t 23), some 179, some (177, false)⟩,
    ⟨.call J2b [(.t 178), (.t 179)] 0, some 180, some (177, false)⟩,
    ⟨.un .not (.t 180), some 181, some (177, false)⟩,
    ⟨.pick (.t 177) (.c (.p (.b true))) (.t 181), some 182, none⟩])
  (.keep [3, 4, 7, 11, 14, 16, 19, 21, 23, 60, 61, 62, 82, 83, 84, 154, 155, 156, 182] (.cond (.t 182)
  (.seq (.reg false [] [⟨.mv (.c (.p (.b false))), some 10, none⟩])
    (.ret))
  (.skip)))))))))))
  (.reg false [] [⟨.bin .add .plain (.t 156) (.c (.p (.i .i64 1))), some 183, none⟩,
    ⟨.mv (.t 183), some 156, none⟩])))
def J02 : Jn := .seq (.reg false [] [⟨.bin .lss .plain (.t 199) (.t 198), some 200, none⟩])
  (.seq (.cond (.t 200)
  (.skip)
  (.exit 6))
  (.seq (.block 7 (.seq (.reg false [] [⟨.iaddr 34 (.t 197) (.t 199), some 201, none⟩,
    ⟨.load true 34 (.t 201), some 202, none⟩,
    ⟨.newbox (J9 default), some 28, none⟩,
    ⟨.store 34 (.t 28) (.t 202), none, none⟩])
  (.keep [3, 4, 7, 11, 14, 21, 23, 28, 60, 61, 62, 82, 83, 84, 197, 198, 199] (.seq (.reg false [] [⟨.load true 3 (.t 14), some 204, none⟩,
    ⟨.load true 34 (.t 28), some 205, none⟩,
    ⟨.call J6Z [(.t 204), (.t 205)] 0, some 206, none⟩,
    ⟨.mv (.t 206), some 203, none⟩,
    ⟨.extr (.t 203) 0, some 207, none⟩,
    ⟨.extr (.t 203) 1, some 208, none⟩,
    ⟨.store 3 (.t 21) (.t 207), none, none⟩,
    ⟨.mv (.t 208), some 22, none⟩])
  (.keep [3, 4, 7, 11, 14, 21, 22, 23, 28, 60, 61, 62, 82, 83, 84, 197, 198, 199] (.seq (.reg false [] [⟨.load true 3 (.t 14), some 210, none⟩,
    ⟨.load true 34 (.t 28), some 211, none⟩,
    ⟨.call J66 [(.t 210), (.t 211)] 0, some 212, none⟩,
    ⟨.mv (.t 212), some 209, none⟩,
    ⟨.extr (.t 209) 0, some 213, none⟩,
    ⟨.extr (.t 209) 1, some 214, none⟩,
    ⟨.store 3 (.t 23) (.t 213), none, none⟩,
    ⟨.mv (.t 214), some 24, none⟩])
  (.keep [3, 4, 7, 11, 14, 21, 22, 23, 24, 28, 60, 61, 62, 82, 83, 84, 197, 198, 199] (.seq (.seq (.reg false [] [⟨.mv (.t 22), some 215, none⟩,
    ⟨.mv (.t 24), some 216, none⟩,
    ⟨.bin .neq .plain (.t 215) (.t 216), some 217, none⟩,
    ⟨.mv (.t 217), some 218, none⟩,
    ⟨.load true 3 (.t 21), some 219, some (218, false)⟩,
    ⟨.load true 3 (.t 23), some 220, some (218, false)⟩,
    ⟨.call J2b [(.t 219), (.t 220)] 0, some 221, some (218, false)⟩,
    ⟨.un .not (.t 221), some 222, some (218, false)⟩,
    ⟨.pick (.t 218) (.c (.p (.b true))) (.t 222), some 223, none⟩])
  (.keep [3, 4, 7, 11, 14, 21, 23, 28, 60, 61, 62, 82, 83, 84, 197, 198, 199, 223] (.cond (.t 223)
  (.seq (.reg false [] [⟨.mv (.c (.p (.b false))), some 10, none⟩])
    (.ret))
  (.skip))))
  (.seq (.reg false [] [⟨.load true 3 (.t 14), some 225, none⟩,
    ⟨.load true 34 (.t 28), some 226, none⟩,
    ⟨.call J6A [(.t 225), (.t 226)] 0, some 227, none⟩,
    ⟨.mv (.t 227), some 224, none⟩,
    ⟨.extr (.t 224) 0, some 228, none⟩,
    ⟨.extr (.t 224) 1, some 229, none⟩,
    ⟨.store 3 (.t 21) (.t 228), none, none⟩,
    ⟨.mv (.t 229), some 22, none⟩])
  (.keep [3, 4, 7, 11, 14, 21, 22, 23, 28, 60, 61, 62, 82, 83, 84, 197, 198, 199] (.seq (.reg false [] [⟨.load true 3 (.t 14), some 231, none⟩,
    ⟨.load true 34 (.t 28), some 232, none⟩,
    ⟨.call J56 [(.t 231), (.t 232)] 0, some 233, none⟩,
    ⟨.mv (.t 233), some 230, none⟩,
    ⟨.extr (.t 230) 0, some 234, none⟩,
    ⟨.extr (.t 230) 1, some 235, none⟩,
    ⟨.store 3 (.t 23) (.t 234), none, none⟩,
    ⟨.mv (.t 235), some 24, none⟩])
  (.keep [3, 4, 7, 11, 14, 21, 22, 23, 24, 60, 61, 62, 82, 83, 84, 197, 198, 199] (.seq (.reg false [] [⟨.mv (.t 22), some 236, none⟩,
    ⟨.mv (.t 24), some 237, none⟩,
    ⟨.bin .neq .plain (.t 236) (.t 237), some 238, none⟩,
    ⟨.mv (.t 238), some 239, none⟩,
    ⟨.load true 3 (.t 21), some 240, some (239, false)⟩,
    ⟨.load true 3 (.t 23), some 241, some (239, false)⟩,
    ⟨.call J2b [(.t 240), (.t 241)] 0, some 242, some (239, false)⟩,
    ⟨.un .not (.t 242), some 243, some (239, false)⟩,
    ⟨.pick (.t 239) (.c (.p (.b true))) (.t 243), some 244, none⟩])
  (.keep [3, 4, 7, 11, 14, 21, 23, 60, 61, 62, 82, 83, 84, 197, 198, 199, 244] (.cond (.t 244)
  (.seq (.reg false [] [⟨.mv (.c (.p (.b false))), some 10, none⟩])
    (.ret))
  (.skip))))))))))))))))
  (.reg false [] [⟨.bin .add .plain (.t 199) (.c (.p (.i .i64 1))), some 245, none⟩,
    ⟨.mv (.t 245), some 199, none⟩])))
def J2H : Jn := .seq (.reg true [(1, 3)] [⟨.faddr 1 (.t 19), some 184, none⟩,
    ⟨.load false 1 (.t 184), some 185, none⟩,
    ⟨.mv (.t 11), some 186, none⟩,
    ⟨.call Jd [(.t 186), (.c (.p (.i .i64 3)))] 0, some 187, none⟩,
    ⟨.bin .add .plain (.t 185) (.t 187), some 188, none⟩,
    ⟨.faddr 1 (.t 19), some 189, none⟩,
    ⟨.store 1 (.t 189) (.t 188), none, none⟩])
  (.keep [3, 4, 7, 11, 14, 16, 19, 21, 23, 60, 61, 62, 82, 83, 84] (.seq (.reg true [(0, 5), (1, 5), (0, 6), (1, 6)] [⟨.load true 34 (.t 7), some 190, none⟩,
    ⟨.load true 34 (.t 19), some 191, none⟩,
    ⟨.mv (.t 11), some 192, none⟩,
    ⟨.mv (.t 11), some 193, none⟩,
    ⟨.mv (.t 16), some 194, none⟩,
    ⟨.call J1v [(.t 193), (.t 194)] 0, some 195, none⟩,
    ⟨.call J1g [(.t 192), (.t 195)] 0, some 196, none⟩,
    ⟨.lits false 34 3 (J9 default) [(0, (.t 190)), (1, (.t 191)), (2, (.t 196))], some 197, none⟩,
    ⟨.len false (.t 197), some 198, none⟩,
    ⟨.mv (.c (.p (.i .i64 0))), some 199, none⟩])
  (.keep [3, 4, 7, 11, 14, 21, 23, 60, 61, 62, 82, 83, 84, 197, 198, 199] (.block 6 (.loop [3, 4, 7, 11, 14, 21, 23, 60, 61, 62, 82, 83, 84, 197, 198, 199] J02)))))
def J0v : Jn := .reg false [] [⟨.bin .add .plain (.t 84) (.c (.p (.i .i64 1))), some 246, none⟩,
    ⟨.mv (.t 246), some 84, none⟩]
def Js : Jn := .seq (.reg false [] [⟨.bin .lss .plain (.t 84) (.t 83), some 85, none⟩])
  (.seq (.cond (.t 85)
  (.skip)
  (.exit 2))
  (.seq (.tidy [3, 4, 7, 10, 11, 14, 60, 61, 62, 82, 83, 84] (.block 3 (.seq (.reg false [] [⟨.iaddr 1 (.t 82) (.t 84), some 86, none⟩,
    ⟨.load false 1 (.t 86), some 87, none⟩,
    ⟨.mv (.t 87), some 16, none⟩])
  (.keep [3, 4, 7, 11, 14, 16, 60, 61, 62, 82, 83, 84] (.seq (.reg false [] [⟨.load true 3 (.t 14), some 89, none⟩,
    ⟨.mv (.t 16), some 90, none⟩,
    ⟨.call J9A [(.t 89), (.t 90)] 0, some 91, none⟩,
    ⟨.mv (.t 91), some 88, none⟩,
    ⟨.extr (.t 88) 0, some 92, none⟩,
    ⟨.extr (.t 88) 1, some 93, none⟩,
    ⟨.newbox (J9 default), some 17, none⟩,
    ⟨.store 34 (.t 17) (.t 92), none, none⟩,
    ⟨.mv (.t 93), some 18, none⟩])
  (.keep [3, 4, 7, 11, 14, 16, 17, 18, 60, 61, 62, 82, 83, 84] (.seq (.reg false [] [⟨.load true 3 (.t 14), some 95, none⟩,
    ⟨.mv (.t 16), some 96, none⟩,
    ⟨.call J65 [(.t 95), (.t 96)] 0, some 97, none⟩,
    ⟨.mv (.t 97), some 94, none⟩,
    ⟨.extr (.t 94) 0, some 98, none⟩,
    ⟨.extr (.t 94) 1, some 99, none⟩,
    ⟨.newbox (J9 default), some 19, none⟩,
    ⟨.store 34 (.t 19) (.t 98), none, none⟩,
    ⟨.mv (.t 99), some 20, none⟩])
  (.keep [3, 4, 7, 11, 14, 16, 17, 18, 19, 20, 60, 61, 62, 82, 83, 84] (.seq (.seq (.reg true [(11, 12), (20, 21)] [⟨.load true 34 (.t 17), some 100, none⟩,
    ⟨.load true 34 (.t 19), some 101, none⟩,
    ⟨.bin .neq (.flat [(.i .i64), (.i .i64), .b, .s, .b, .s, .b, .s, .b, .s, .b, .s, .b, .s, .b, .s, .b, .s, .b, .s, .b, .s, .b, .s, .b, .s, .b, .s, .b, .s, .b, .s, .b, .s]) (.t 100) (.t 101), some 102, none⟩,
    ⟨.mv (.t 102), some 103, none⟩,
    ⟨.mv (.t 18), some 104, some (103, false)⟩,
    ⟨.mv (.t 20), some 105, some (103, false)⟩,
    ⟨.bin .neq .bool (.t 104) (.t 105), some 106, some (103, false)⟩,
    ⟨.pick (.t 103) (.c (.p (.b true))) (.t 106), some 107, none⟩,
    ⟨.mv (.t 107), some 108, none⟩,
    ⟨.load true 3 (.t 14), some 109, some (108, false)⟩,
    ⟨.mv (.t 16), some 110, some (108, false)⟩,
    ⟨.call J5k [(.t 109), (.t 110)] 0, some 111, some (108, false)⟩,
    ⟨.load true 3 (.t 14), some 112, some (108, false)⟩,
    ⟨.mv (.t 16), some 113, some (108, false)⟩,
    ⟨.call J4r [(.t 112), (.t 113)] 0, some 114, some (108, false)⟩,
    ⟨.bin .neq .plain (.t 111) (.t 114), some 115, some (108, false)⟩,
    ⟨.pick (.t 108) (.c (.p (.b true))) (.t 115), some 116, none⟩,
    ⟨.mv (.t 116), some 117, none⟩,
    ⟨.load true 3 (.t 14), some 118, some (117, false)⟩,
    ⟨.mv (.t 16), some 119, some (117, false)⟩,
    ⟨.call J83 [(.t 118), (.t 119)] 0, some 120, some (117, false)⟩,
    ⟨.load true 3 (.t 14), some 121, some (117, false)⟩,
    ⟨.mv (.t 16), some 122, some (117, false)⟩,
    ⟨.call J7j [(.t 121), (.t 122)] 0, some 123, some (117, false)⟩,
    ⟨.call J2b [(.t 120), (.t 123)] 0, some 124, some (117, false)⟩,
    ⟨.un .not (.t 124), some 125, some (117, false)⟩,
    ⟨.pick (.t 117) (.c (.p (.b true))) (.t 125), some 126, none⟩])
  (.keep [3, 4, 7, 11, 14, 16, 19, 60, 61, 62, 82, 83, 84, 126] (.cond (.t 126)
  (.seq (.reg false [] [⟨.mv (.c (.p (.b false))), some 10, none⟩])
    (.ret))
  (.skip))))
  (.seq (.reg false [] [⟨.load true 3 (.t 14), some 128, none⟩,
    ⟨.mv (.t 16), some 129, none⟩,
    ⟨.call J8r [(.t 128), (.t 129)] 0, some 130, none⟩,
    ⟨.mv (.t 130), some 127, none⟩,
    ⟨.extr (.t 127) 0, some 131, none⟩,
    ⟨.extr (.t 127) 1, some 132, none⟩,
    ⟨.newbox (J3 default), some 21, none⟩,
    ⟨.store 3 (.t 21) (.t 131), none, none⟩,
    ⟨.mv (.t 132), some 22, none⟩])
  (.keep [3, 4, 7, 11, 14, 16, 19, 21, 22, 60, 61, 62, 82, 83, 84] (.seq (.reg false [] [⟨.load true 3 (.t 14), some 134, none⟩,
    ⟨.mv (.t 16), some 135, none⟩,
    ⟨.call J7W [(.t 134), (.t 135)] 0, some 136, none⟩,
    ⟨.mv (.t 136), some 133, none⟩,
    ⟨.extr (.t 133) 0, some 137, none⟩,
    ⟨.extr (.t 133) 1, some 138, none⟩,
    ⟨.newbox (J3 default), some 23, none⟩,
    ⟨.store 3 (.t 23) (.t 137), none, none⟩,
    ⟨.mv (.t 138), some 24, none⟩])
  (.keep [3, 4, 7, 11, 14, 16, 19, 21, 22, 23, 24, 60, 61, 62, 82, 83, 84] (.seq (.seq (.reg false [] [⟨.mv (.t 22), some 139, none⟩,
    ⟨.mv (.t 24), some 140, none⟩,
    ⟨.bin .neq .plain (.t 139) (.t 140), some 141, none⟩,
    ⟨.mv (.t 141), some 142, none⟩,
    ⟨.load true 3 (.t 21), some 143, some (142, false)⟩,
    ⟨.load true 3 (.t 23), some 144, some (142, false)⟩,
    ⟨.call J2b [(.t 143), (.t 144)] 0, some 145, some (142, false)⟩,
    ⟨.un .not (.t 145), some 146, some (142, false)⟩,
    ⟨.pick (.t 142) (.c (.p (.b true))) (.t 146), some 147, none⟩])
  (.keep [3, 4, 7, 11, 14, 16, 19, 21, 23, 60, 61, 62, 82, 83, 84, 147] (.cond (.t 147)
  (.seq (.reg false [] [⟨.mv (.c (.p (.b false))), some 10, none⟩])
    (.ret))
  (.skip))))
  (.seq (.seq (.reg false [] [⟨.mv (.t 4), some 148, none⟩,
    ⟨.faddr 1 (.t 19), some 149, none⟩,
    ⟨.load false 1 (.t 149), some 150, none⟩,
    ⟨.faddr 1 (.t 19), some 151, none⟩,
    ⟨.load false 1 (.t 151), some 152, none⟩,
    ⟨.bin .sub .plain (.t 152) (.c (.p (.i .i64 1))), some 153, none⟩,
    ⟨.lits false 1 3 [(.i .i64 0)] [(0, (.t 148)), (1, (.t 150)), (2, (.t 153))], some 154, none⟩,
    ⟨.len false (.t 154), some 155, none⟩,
    ⟨.mv (.c (.p (.i .i64 0))), some 156, none⟩])
  (.keep [3, 4, 7, 11, 14, 16, 19, 21, 23, 60, 61, 62, 82, 83, 84, 154, 155, 156] (.block 4 (.loop [3, 4, 7, 11, 14, 16, 19, 21, 23, 60, 61, 62, 82, 83, 84, 154, 155, 156] J0u))))
  (.keep [3, 4, 7, 11, 14, 16, 19, 21, 23, 60, 61, 62, 82, 83, 84] J2H))))))))))))))))
  (.keep [3, 4, 7, 11, 14, 60, 61, 62, 82, 83, 84] J0v)))
def JG : Jn := .seq (.reg false [] [⟨.load true 3 (.t 14), some 248, none⟩,
    ⟨.call J5J [(.t 248)] 0, some 249, none⟩,
    ⟨.mv (.t 249), some 247, none⟩,
    ⟨.extr (.t 247) 0, some 250, none⟩,
    ⟨.extr (.t 247) 1, some 251, none⟩,
    ⟨.extr (.t 247) 2, some 252, none⟩,
    ⟨.newbox (J3 default), some 29, none⟩,
    ⟨.store 3 (.t 29) (.t 250), none, none⟩,
    ⟨.mv (.t 251), some 30, none⟩,
    ⟨.mv (.t 252), some 31, none⟩])
  (.keep [3, 4, 7, 11, 14, 29, 30, 31, 60, 61, 62] (.seq (.reg false [] [⟨.load true 3 (.t 14), some 254, none⟩,
    ⟨.call J50 [(.t 254)] 0, some 255, none⟩,
    ⟨.mv (.t 255), some 253, none⟩,
    ⟨.extr (.t 253) 0, some 256, none⟩,
    ⟨.extr (.t 253) 1, some 257, none⟩,
    ⟨.extr (.t 253) 2, some 258, none⟩,
    ⟨.newbox (J3 default), some 32, none⟩,
    ⟨.store 3 (.t 32) (.t 256), none, none⟩,
    ⟨.mv (.t 257), some 33, none⟩,
    ⟨.mv (.t 258), some 34, none⟩])
  (.keep [3, 4, 7, 11, 29, 30, 31, 32, 33, 34, 60, 61, 62] (.seq (.reg false [] [⟨.mv (.t 30), some 259, none⟩,
    ⟨.mv (.t 33), some 260, none⟩,
    ⟨.bin .neq .plain (.t 259) (.t 260), some 261, none⟩,
    ⟨.mv (.t 261), some 262, none⟩,
    ⟨.mv (.t 31), some 263, some (262, false)⟩,
    ⟨.mv (.t 34), some 264, some (262, false)⟩,
    ⟨.bin .neq .plain (.t 263) (.t 264), some 265, some (262, false)⟩,
    ⟨.pick (.t 262) (.c (.p (.b true))) (.t 265), some 266, none⟩,
    ⟨.mv (.t 266), some 267, none⟩,
    ⟨.load true 3 (.t 29), some 268, some (267, false)⟩,
    ⟨.load true 3 (.t 32), some 269, some (267, false)⟩,
    ⟨.call J2b [(.t 268), (.t 269)] 0, some 270, some (267, false)⟩,
    ⟨.un .not (.t 270), some 271, some (267, false)⟩,
    ⟨.pick (.t 267) (.c (.p (.b true))) (.t 271), some 272, none⟩])
  (.keep [3, 4, 7, 11, 60, 61, 62, 272] (.cond (.t 272)
  (.seq (.reg false [] [⟨.mv (.c (.p (.b false))), some 10, none⟩])
    (.ret))
  (.skip)))))))
def JV : Jn := .reg false [] [⟨.bin .add .plain (.t 62) (.c (.p (.i .i64 1))), some 273, none⟩,
    ⟨.mv (.t 273), some 62, none⟩]
def Jw : Jn := .seq (.reg false [] [⟨.bin .lss .plain (.t 62) (.t 61), some 63, none⟩])
  (.seq (.cond (.t 63)
  (.skip)
  (.exit 0))
  (.seq (.tidy [3, 4, 7, 10, 11, 60, 61, 62] (.block 1 (.seq (.reg false [] [⟨.iaddr 3 (.t 60) (.t 62), some 64, none⟩,
    ⟨.load true 3 (.t 64), some 65, none⟩,
    ⟨.newbox (J3 default), some 14, none⟩,
    ⟨.store 3 (.t 14) (.t 65), none, none⟩])
  (.keep [3, 4, 7, 11, 14, 60, 61, 62] (.seq (.seq (.reg true [(1, 2), (7, 8)] [⟨.load true 3 (.t 14), some 66, none⟩,
    ⟨.call J1J [(.t 66)] 0, some 67, none⟩,
    ⟨.load true 3 (.t 14), some 68, none⟩,
    ⟨.call J1n [(.t 68)] 0, some 69, none⟩,
    ⟨.bin .neq .bool (.t 67) (.t 69), some 70, none⟩,
    ⟨.mv (.t 70), some 71, none⟩,
    ⟨.load true 3 (.t 14), some 72, some (71, false)⟩,
    ⟨.call J6k [(.t 72)] 0, some 73, some (71, false)⟩,
    ⟨.load true 3 (.t 14), some 74, some (71, false)⟩,
    ⟨.call J5M [(.t 74)] 0, some 75, some (71, false)⟩,
    ⟨.call J3y [(.t 73), (.t 75)] 0, some 76, some (71, false)⟩,
    ⟨.un .not (.t 76), some 77, some (71, false)⟩,
    ⟨.pick (.t 71) (.c (.p (.b true))) (.t 77), some 78, none⟩])
  (.keep [3, 4, 7, 11, 14, 60, 61, 62, 78] (.cond (.t 78)
  (.seq (.reg false [] [⟨.mv (.c (.p (.b false))), some 10, none⟩])
    (.ret))
  (.skip))))
  (.seq (.tidy [3, 4, 7, 10, 11, 14, 60, 61, 62] (.seq (.reg false [] [⟨.mv (.t 3), some 79, none⟩,
    ⟨.mv (.t 11), some 80, none⟩,
    ⟨.call Jd [(.t 80), (.c (.p (.i .i64 6)))] 0, some 81, none⟩,
    ⟨.lits false 1 2 [(.i .i64 0)] [(0, (.t 79)), (1, (.t 81))], some 82, none⟩,
    ⟨.len false (.t 82), some 83, none⟩,
    ⟨.mv (.c (.p (.i .i64 0))), some 84, none⟩])
  (.keep [3, 4, 7, 11, 14, 60, 61, 62, 82, 83, 84] (.block 2 (.loop [3, 4, 7, 11, 14, 60, 61, 62, 82, 83, 84] Js)))))
  (.keep [3, 4, 7, 11, 14, 60, 61, 62] JG)))))))
  (.keep [3, 4, 7, 11, 60, 61, 62] JV)))
def JB : Jn := .seq (.reg false [] [⟨.mv (.t 3), some 275, none⟩,
    ⟨.call J82 [(.t 275)] 0, some 276, none⟩,
    ⟨.mv (.t 276), some 274, none⟩,
    ⟨.extr (.t 274) 0, some 277, none⟩,
    ⟨.extr (.t 274) 1, some 278, none⟩,
    ⟨.newbox (J3 default), some 35, none⟩,
    ⟨.store 3 (.t 35) (.t 277), none, none⟩,
    ⟨.mv (.t 278), some 36, none⟩])
  (.keep [3, 35, 36] (.seq (.reg false [] [⟨.mv (.t 3), some 280, none⟩,
    ⟨.call J7f [(.t 280)] 0, some 281, none⟩,
    ⟨.mv (.t 281), some 279, none⟩,
    ⟨.extr (.t 279) 0, some 282, none⟩,
    ⟨.extr (.t 279) 1, some 283, none⟩,
    ⟨.newbox (J3 default), some 37, none⟩,
    ⟨.store 3 (.t 37) (.t 282), none, none⟩,
    ⟨.mv (.t 283), some 38, none⟩])
  (.keep [35, 36, 37, 38] (.seq (.reg false [] [⟨.mv (.t 36), some 284, none⟩,
    ⟨.mv (.t 38), some 285, none⟩,
    ⟨.bin .eql .plain (.t 284) (.t 285), some 286, none⟩,
    ⟨.mv (.t 286), some 287, none⟩,
    ⟨.load true 3 (.t 35), some 288, some (287, true)⟩,
    ⟨.load true 3 (.t 37), some 289, some (287, true)⟩,
    ⟨.call J2b [(.t 288), (.t 289)] 0, some 290, some (287, true)⟩,
    ⟨.pick (.t 287) (.t 290) (.c (.p (.b false))), some 291, none⟩,
    ⟨.mv (.t 291), some 10, none⟩])
  (.ret)))))
def J21 : Jn := .seq (.reg false [] [⟨.box 3 (.t 1), some 6, none⟩,
    ⟨.box 34 (.t 2), some 7, none⟩,
    ⟨.mv (.c (.p (.b false))), some 10, none⟩])
  (.keep [0, 3, 4, 6, 7] (.seq (.seq (.reg false [] [⟨.call J6J [] 0, some 39, none⟩,
    ⟨.un .not (.t 39), some 40, none⟩,
    ⟨.mv (.t 40), some 41, none⟩,
    ⟨.faddr 1 (.t 6), some 42, some (41, false)⟩,
    ⟨.load false 1 (.t 42), some 43, some (41, false)⟩,
    ⟨.len false (.t 43), some 44, some (41, false)⟩,
    ⟨.bin .gtr .plain (.t 44) (.c (.p (.i .i64 20))), some 45, some (41, false)⟩,
    ⟨.pick (.t 41) (.c (.p (.b true))) (.t 45), some 46, none⟩])
  (.keep [0, 3, 4, 6, 7, 46] (.cond (.t 46)
  (.seq (.reg false [] [⟨.faddr 1 (.t 6), some 47, none⟩,
      ⟨.load false 1 (.t 47), some 48, none⟩,
      ⟨.len false (.t 48), some 49, none⟩,
      ⟨.bin .gtr .plain (.t 49) (.c (.p (.i .i64 20))), some 50, none⟩,
      ⟨.mv (.t 50), some 10, none⟩])
    (.ret))
  (.skip))))
  (.seq (.reg false [] [⟨.mv (.t 0), some 51, none⟩,
    ⟨.call J9D [(.t 51), (.c (.p (.i .i64 200)))] 1, some 52, none⟩,
    ⟨.mv (.t 52), some 11, none⟩])
  (.keep [3, 4, 6, 7, 11] (.seq (.reg false [] [⟨.mv (.t 11), some 53, none⟩,
    ⟨.call J4A [(.t 53)] 0, some 54, none⟩,
    ⟨.newbox (J3 default), some 12, none⟩,
    ⟨.store 3 (.t 12) (.t 54), none, none⟩])
  (.keep [3, 4, 6, 7, 11, 12] (.seq (.tidy [3, 10] (.seq (.reg true [(0, 4), (1, 4)] [⟨.load true 3 (.t 6), some 55, none⟩,
    ⟨.load true 3 (.t 12), some 56, none⟩,
    ⟨.mv (.t 11), some 57, none⟩,
    ⟨.load true 3 (.t 12), some 58, none⟩,
    ⟨.call J7e [(.t 57), (.t 58)] 0, some 59, none⟩,
    ⟨.lits false 3 3 (J3 default) [(0, (.t 55)), (1, (.t 56)), (2, (.t 59))], some 60, none⟩,
    ⟨.len false (.t 60), some 61, none⟩,
    ⟨.mv (.c (.p (.i .i64 0))), some 62, none⟩])
  (.keep [3, 4, 7, 11, 60, 61, 62] (.block 0 (.loop [3, 4, 7, 11, 60, 61, 62] Jw)))))
  (.keep [3] JB))))))))
def JD : AFn := ⟨5, 292, J21, [.tmp 10], false⟩
theorem Jqt : J8e.res = [.tmp 4] ∧ J8e.fresh = false := ⟨rfl, rfl⟩
theorem J7q : J4I.res = [.tmp 4] ∧ J4I.fresh = false := ⟨rfl, rfl⟩
theorem Jhb : J0V.res = [.tmp 2] ∧ J0V.fresh = false := ⟨rfl, rfl⟩
theorem Jf6 : J9H.res = [.cell 2 true 3, .tmp 3] ∧ J9H.fresh = false := ⟨rfl, rfl⟩
theorem J9R : J1d.res = [.tmp 4] ∧ J1d.fresh = false := ⟨rfl, rfl⟩
theorem J9d : J2Z.res = [.tmp 4] ∧ J2Z.fresh = false := ⟨rfl, rfl⟩
theorem JdF : J8w.res = [.cell 2 true 3, .tmp 3] ∧ J8w.fresh = false := ⟨rfl, rfl⟩
theorem Jad : J58.res = [.tmp 2] ∧ J58.fresh = false := ⟨rfl, rfl⟩
theorem Jc8 : J4D.res = [.cell 2 true 2] ∧ J4D.fresh = false := ⟨rfl, rfl⟩
theorem Jax : J39.res = [.tmp 2] ∧ J39.fresh = false := ⟨rfl, rfl⟩
theorem Jkr : J6d.res = [.tmp 3] ∧ J6d.fresh = false := ⟨rfl, rfl⟩
theorem J4X : JF.res = [.tmp 4] ∧ JF.fresh = false := ⟨rfl, rfl⟩
theorem Jp7 : J8y.res = [.tmp 4] ∧ J8y.fresh = false := ⟨rfl, rfl⟩
theorem J9X : J0G.res = [.tmp 2] ∧ J0G.fresh = false := ⟨rfl, rfl⟩
theorem J8Q : J5x.res = [.tmp 2] ∧ J5x.fresh = false := ⟨rfl, rfl⟩
theorem Jgx : J37.res = [.tmp 4] ∧ J37.fresh = false := ⟨rfl, rfl⟩
theorem Jpf : J8s.res = [.cell 6 true 3] ∧ J8s.fresh = false := ⟨rfl, rfl⟩
theorem Jgk : J7A.res = [.tmp 2] ∧ J7A.fresh = false := ⟨rfl, rfl⟩
theorem Jgl : J01.res = [.cell 0 true 16] ∧ J01.fresh = false := ⟨rfl, rfl⟩
theorem J9S : J4J.res = [.tmp 2] ∧ J4J.fresh = false := ⟨rfl, rfl⟩
theorem JhO : J0U.res = [.cell 4 true 34] ∧ J0U.fresh = false := ⟨rfl, rfl⟩
theorem J4u : J3j.res = [.cell 4 true 34] ∧ J3j.fresh = false := ⟨rfl, rfl⟩
theorem JbP : J6O.res = [.tmp 2] ∧ J6O.fresh = false := ⟨rfl, rfl⟩
theorem JfJ : J2J.res = [] ∧ J2J.fresh = false := ⟨rfl, rfl⟩
theorem Jph : J3O.res = [.tmp 2] ∧ J3O.fresh = false := ⟨rfl, rfl⟩
theorem Jee : J2X.res = [.tmp 6] ∧ J2X.fresh = false := ⟨rfl, rfl⟩
theorem JbY : J2q.res = [.tmp 2] ∧ J2q.fresh = false := ⟨rfl, rfl⟩
theorem JgG : J7O.res = [.tmp 2] ∧ J7O.fresh = false := ⟨rfl, rfl⟩
theorem JbQ : J2n.res = [.tmp 2, .tmp 3] ∧ J2n.fresh = false := ⟨rfl, rfl⟩
theorem Jfs : J6E.res = [.tmp 2] ∧ J6E.fresh = false := ⟨rfl, rfl⟩
theorem J7g : J8A.res = [.cell 4 true 3] ∧ J8A.fresh = false := ⟨rfl, rfl⟩
theorem J32 : J34.res = [.tmp 2] ∧ J34.fresh = false := ⟨rfl, rfl⟩
theorem J2o : J0S.res = [.tmp 2] ∧ J0S.fresh = false := ⟨rfl, rfl⟩
theorem Jfh : J23.res = [.tmp 2] ∧ J23.fresh = false := ⟨rfl, rfl⟩
theorem Jil : J8v.res = [.tmp 4] ∧ J8v.fresh = false := ⟨rfl, rfl⟩
theorem JgD : J7w.res = [.tmp 4] ∧ J7w.fresh = false := ⟨rfl, rfl⟩
theorem Jjw : J9G.res = [.cell 4 true 3] ∧ J9G.fresh = false := ⟨rfl, rfl⟩
theorem JhW : J8x.res = [.cell 4 true 3] ∧ J8x.fresh = false := ⟨rfl, rfl⟩
theorem Jav : J5p.res = [.cell 4 true 3, .tmp 5] ∧ J5p.fresh = false := ⟨rfl, rfl⟩
theorem J8i : J5H.res = [.cell 6 true 3, .tmp 7] ∧ J5H.fresh = false := ⟨rfl, rfl⟩
theorem JbK : J2p.res = [.cell 2 true 3, .tmp 3, .tmp 4] ∧ J2p.fresh = false := ⟨rfl, rfl⟩
theorem Jbr : J2a.res = [.cell 2 true 3, .tmp 3, .tmp 4] ∧ J2a.fresh = false := ⟨rfl, rfl⟩
theorem JbH : J6Q.res = [.tmp 2] ∧ J6Q.fresh = false := ⟨rfl, rfl⟩
theorem Jat : J9q.res = [.cell 4 true 3, .tmp 5] ∧ J9q.fresh = false := ⟨rfl, rfl⟩
theorem J8o : J5C.res = [.cell 4 true 3, .tmp 5] ∧ J5C.fresh = false := ⟨rfl, rfl⟩
theorem J9h : J6m.res = [.cell 6 true 3, .tmp 7] ∧ J6m.fresh = false := ⟨rfl, rfl⟩
theorem Jg6 : J36.res = [.tmp 2] ∧ J36.fresh = false := ⟨rfl, rfl⟩
theorem JbA : J63.res = [.cell 4 true 3, .tmp 5] ∧ J63.fresh = false := ⟨rfl, rfl⟩
theorem Jjs : J9j.res = [.cell 4 true 34, .tmp 5] ∧ J9j.fresh = false := ⟨rfl, rfl⟩
theorem Jie : J8u.res = [.cell 4 true 34, .tmp 5] ∧ J8u.fresh = false := ⟨rfl, rfl⟩
theorem J9U : J8q.res = [.cell 4 true 3, .tmp 5] ∧ J8q.fresh = false := ⟨rfl, rfl⟩
theorem J7J : J51.res = [.cell 4 true 3, .tmp 5] ∧ J51.fresh = false := ⟨rfl, rfl⟩
theorem J4N : J6M.res = [.tmp 0] ∧ J6M.fresh = false := ⟨rfl, rfl⟩
theorem Jhs : J0T.res = [.cell 2 true 3] ∧ J0T.fresh = false := ⟨rfl, rfl⟩
theorem JS : JD.res = [.tmp 10] ∧ JD.fresh = false := ⟨rfl, rfl⟩
def fns : List (FuncId × AFn) := [(J9D, J8e), (Jd, J4I), (J2F, J0V), (J82, J9H), (J3y, J1d), (J2b, J2Z), (J7f, J8w), (J1q, J58), (J2E, J4D), (J6p, J39), (J13, J6d), (J0l, JF), (J3R, J8y), (J0o, J0G), (J4q, J5x), (J38, J37), (J5m, J8s), (J7P, J7A), (J45, J01), (J8R, Jdt), (J4E, J4J), (Jc0, Jc3), (Jc1, Jc9), (J9Y, J9W), (J1v, J0U), (J1g, J3j), (J5N, J6O), (J18, J2J), (J7l, J3O), (J1s, J2X), (J9Q, Jca), (J5A, J2q), (J7V, J7O), (J5F, J2n), (J6L, J6E), (J7e, J8A), (J1J, J34), (J1n, J0S), (J5M, J23), (J5k, J8v), (J4r, J7w), (J83, J9G), (J7j, J8x), (J7W, J5p), (J4O, J5H), (J5J, J2p), (J50, J2a), (J5B, J6Q), (J8S, Jd2), (J6Z, J9q), (J6A, J5C), (J7K, J6m), (J6k, J36), (J8r, J63), (J9A, J9j), (J65, J8u), (J66, J8q), (J56, J51), (J6J, J6M), (J4A, J0T), (J7r, JD)]
def JmQ : List (FuncId × JaN) := [(JT, J1e)]
def JmN : List (FuncId × (List AV → List Blk → Option Res)) := [(J2d, JmY), (J30, Jnv), (J0R, (JeO 3 166 J8n Je (fun x : T_api_Dirty => x.Page))), (J16, (JiE 37 (J7 (⟨(⟨0, 0, (Vector.replicate 16 (⟨false, []⟩ : Jk))⟩ : T_api_Page), false, 0, false⟩ : T_api_Frame))))]
def lkF {α : Type} (f : FuncId) : List (FuncId × α) → Option α
  | [] => none
  | (g, a) :: r => if f = g then some a else lkF f r
def J6 (prims : FuncId → Option (List AV → List Blk → Option Res)) : J5O := fun f => Jvz (lkF f fns) (lkF f JmQ) (lkF f JmN) (prims f)
theorem Jqo (p) : J6 p J9D = some (.fn J8e) := rfl
theorem JhJ (p) : J6 p Jd = some (.fn J4I) := rfl
theorem Jhl (p) : J6 p J2F = some (.fn J0V) := rfl
theorem Jq9 (p) : J6 p J82 = some (.fn J9H) := rfl
theorem Jhp (p) : J6 p J3y = some (.fn J1d) := rfl
theorem Jo4 (p) : J6 p J2b = some (.fn J2Z) := rfl
theorem JoJ (p) : J6 p J7f = some (.fn J8w) := rfl
theorem Jin (p) : J6 p J1q = some (.fn J58) := rfl
theorem JhG (p) : J6 p J2E = some (.fn J4D) := rfl
theorem JmZ (p) : J6 p J6p = some (.fn J39) := rfl
theorem Jl4 (p) : J6 p J13 = some (.fn J6d) := rfl
theorem J8F (p) : J6 p J0l = some (.fn JF) := rfl
theorem JoF (p) : J6 p J3R = some (.fn J8y) := rfl
theorem Ja1 (p) : J6 p J0o = some (.fn J0G) := rfl
theorem Jjz (p) : J6 p J4q = some (.fn J5x) := rfl
theorem Jok (p) : J6 p J38 = some (.fn J37) := rfl
theorem JoA (p) : J6 p J5m = some (.fn J8s) := rfl
theorem JmW (p) : J6 p J7P = some (.fn J7A) := rfl
theorem JgQ (p) : J6 p J45 = some (.fn J01) := rfl
theorem Jhz (p) : J6 p J4E = some (.fn J4J) := rfl
theorem Jhv (p) : J6 p J1v = some (.fn J0U) := rfl
theorem JeU (p) : J6 p J1g = some (.fn J3j) := rfl
theorem Jmw (p) : J6 p J5N = some (.fn J6O) := rfl
theorem JfB (p) : J6 p J18 = some (.fn J2J) := rfl
theorem Jp9 (p) : J6 p J7l = some (.fn J3O) := rfl
theorem Je5 (p) : J6 p J1s = some (.fn J2X) := rfl
theorem Jmt (p) : J6 p J5A = some (.fn J2q) := rfl
theorem JnV (p) : J6 p J7V = some (.fn J7O) := rfl
theorem Jmc (p) : J6 p J5F = some (.fn J2n) := rfl
theorem JmI (p) : J6 p J6L = some (.fn J6E) := rfl
theorem Jot (p) : J6 p J7e = some (.fn J8A) := rfl
theorem Joa (p) : J6 p J1J = some (.fn J34) := rfl
theorem Jmj (p) : J6 p J1n = some (.fn J0S) := rfl
theorem Jmv (p) : J6 p J5M = some (.fn J23) := rfl
theorem Jov (p) : J6 p J5k = some (.fn J8v) := rfl
theorem Jo7 (p) : J6 p J4r = some (.fn J7w) := rfl
theorem Jqn (p) : J6 p J83 = some (.fn J9G) := rfl
theorem Jpb (p) : J6 p J7j = some (.fn J8x) := rfl
theorem Jo5 (p) : J6 p J7W = some (.fn J5p) := rfl
theorem Jml (p) : J6 p J4O = some (.fn J5H) := rfl
theorem Jmh (p) : J6 p J5J = some (.fn J2p) := rfl
theorem JkS (p) : J6 p J50 = some (.fn J2a) := rfl
theorem Jmr (p) : J6 p J5B = some (.fn J6Q) := rfl
theorem JqH (p) : J6 p J6Z = some (.fn J9q) := rfl
theorem Jm7 (p) : J6 p J6A = some (.fn J5C) := rfl
theorem Jnr (p) : J6 p J7K = some (.fn J6m) := rfl
theorem Jny (p) : J6 p J6k = some (.fn J36) := rfl
theorem Jpi (p) : J6 p J8r = some (.fn J63) := rfl
theorem Jqr (p) : J6 p J9A = some (.fn J9j) := rfl
theorem Jp2 (p) : J6 p J65 = some (.fn J8u) := rfl
theorem JoN (p) : J6 p J66 = some (.fn J8q) := rfl
theorem Jl6 (p) : J6 p J56 = some (.fn J51) := rfl
theorem JmC (p) : J6 p J6J = some (.fn J6M) := rfl
theorem Jhc (p) : J6 p J4A = some (.fn J0T) := rfl
theorem JhP (p) : J6 p J7r = some (.fn JD) := rfl
theorem J9O (p) : J6 p JT = some (.fork J1e) := rfl
theorem JoG (p) : J6 p J2d = some (.prim JmY) := rfl
theorem JiP (p) : J6 p J30 = some (.prim Jnv) := rfl
theorem J8Z (p) : J6 p J0R = some (.prim (JeO 3 166 J8n Je (fun x : T_api_Dirty => x.Page))) := rfl
theorem J9p (p) : J6 p J16 = some (.prim (JiE 37 (J7 (⟨(⟨0, 0, (Vector.replicate 16 (⟨false, []⟩ : Jk))⟩ : T_api_Page), false, 0, false⟩ : T_api_Frame)))) := rfl
end Go.Am
end
