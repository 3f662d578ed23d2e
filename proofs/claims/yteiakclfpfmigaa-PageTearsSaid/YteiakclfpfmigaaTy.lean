/-
  The types of the program, and their cells; written by a program from the translation.
-/
import Derived.Test.YteiakclfpfmigaaAmEv
import Derived.Test.YteiakclfpfmigaaAmPrim
namespace Go.Am
set_option linter.unusedSimpArgs false
set_option linter.unusedVariables false

structure T_api_Cell where
  Set : Bool
  Data : List UInt8
  deriving DecidableEq

instance : Inhabited T_api_Cell := ⟨⟨false, []⟩⟩

def e_api_Cell (x : T_api_Cell) : List PV := (cat [.b x.Set] [.s x.Data])

theorem len_api_Cell (x : T_api_Cell) : (e_api_Cell x).length = 2 := by
  simp only [cat, e_api_Cell, List.length_append, List.length_cons, List.length_nil]

theorem sub_api_Cell_Set (x : T_api_Cell) : sub (e_api_Cell x) 0 1 = some [.b x.Set] := by unfold e_api_Cell; exact sub_parts0 rfl

theorem spl_api_Cell_Set (x : T_api_Cell) (y : Bool) : spl (e_api_Cell x) 0 [.b y] = some (e_api_Cell ⟨y, x.Data⟩) := by unfold e_api_Cell; exact spl_parts0 rfl

theorem sub_api_Cell_Data (x : T_api_Cell) : sub (e_api_Cell x) 1 1 = some [.s x.Data] := by
  have e0 : e_api_Cell x = cat [.b x.Set] [.s x.Data] := by unfold e_api_Cell; simp only [cat, List.append_assoc]
  rw [e0]; exact sub_partsE (by simp only [cat, List.length_append, List.length_cons, List.length_nil]) rfl

theorem spl_api_Cell_Data (x : T_api_Cell) (y : List UInt8) : spl (e_api_Cell x) 1 [.s y] = some (e_api_Cell ⟨x.Set, y⟩) := by
  have e0 : e_api_Cell x = cat [.b x.Set] [.s x.Data] := by unfold e_api_Cell; simp only [cat, List.append_assoc]
  have e1 : e_api_Cell ⟨x.Set, y⟩ = cat [.b x.Set] [.s y] := by unfold e_api_Cell; simp only [cat, List.append_assoc]
  rw [e0, e1]; exact spl_partsE (by simp only [cat, List.length_append, List.length_cons, List.length_nil]) rfl

theorem def_api_Cell : (default : T_api_Cell) = (⟨false, []⟩ : T_api_Cell) := rfl

theorem suba_api_Cell (x : T_api_Cell) : sub (e_api_Cell x) 0 2 = some (e_api_Cell x) := sub_all (len_api_Cell x)

theorem spla_api_Cell (x y : T_api_Cell) : spl (e_api_Cell x) 0 (e_api_Cell y) = some (e_api_Cell y) := spl_all ((len_api_Cell x).trans (len_api_Cell y).symm)

theorem B_api_Cell : (∀ x : T_api_Cell, (e_api_Cell x).length = 2) ∧
  (∀ x : T_api_Cell, sub (e_api_Cell x) 0 1 = some [.b x.Set]) ∧
  (∀ (x : T_api_Cell) (y : Bool), spl (e_api_Cell x) 0 [.b y] = some (e_api_Cell ⟨y, x.Data⟩)) ∧
  (∀ x : T_api_Cell, sub (e_api_Cell x) 1 1 = some [.s x.Data]) ∧
  (∀ (x : T_api_Cell) (y : List UInt8), spl (e_api_Cell x) 1 [.s y] = some (e_api_Cell ⟨x.Set, y⟩)) ∧
  ((default : T_api_Cell) = (⟨false, []⟩ : T_api_Cell)) ∧
  (∀ x : T_api_Cell, sub (e_api_Cell x) 0 2 = some (e_api_Cell x)) ∧
  (∀ x y : T_api_Cell, spl (e_api_Cell x) 0 (e_api_Cell y) = some (e_api_Cell y)) :=
  ⟨@len_api_Cell, @sub_api_Cell_Set, @spl_api_Cell_Set, @sub_api_Cell_Data, @spl_api_Cell_Data, def_api_Cell, @suba_api_Cell, @spla_api_Cell⟩

theorem U_api_Cell : (∀ x : T_api_Cell, e_api_Cell x = (cat [.b x.Set] [.s x.Data])) ∧ (default : T_api_Cell) = (⟨false, []⟩ : T_api_Cell) := ⟨fun _ => rfl, rfl⟩

theorem B_ar_eareapiCell16 : (∀ v : Vector T_api_Cell 16, (e_ar e_api_Cell v).length = 32) ∧ (∀ v : Vector T_api_Cell 16, sub (e_ar e_api_Cell v) 0 32 = some (e_ar e_api_Cell v)) ∧ (∀ v y : Vector T_api_Cell 16, spl (e_ar e_api_Cell v) 0 (e_ar e_api_Cell y) = some (e_ar e_api_Cell y)) :=
  ⟨fun v => ar_len len_api_Cell v, fun v => sub_all (ar_len len_api_Cell v), fun v y => spl_all ((ar_len len_api_Cell v).trans (ar_len len_api_Cell y).symm)⟩

structure T_api_Page where
  ID : Int
  LSN : Int
  Cells : Vector T_api_Cell 16
  deriving DecidableEq

instance : Inhabited T_api_Page := ⟨⟨0, 0, (Vector.replicate 16 (⟨false, []⟩ : T_api_Cell))⟩⟩

def e_api_Page (x : T_api_Page) : List PV := (cat [.i .i64 x.ID] (cat [.i .i64 x.LSN] ((e_ar e_api_Cell) x.Cells)))

theorem len_api_Page (x : T_api_Page) : (e_api_Page x).length = 34 := by
  simp only [cat, e_api_Page, (ar_len len_api_Cell x.Cells), List.length_append, List.length_cons, List.length_nil]

theorem sub_api_Page_ID (x : T_api_Page) : sub (e_api_Page x) 0 1 = some [.i .i64 x.ID] := by unfold e_api_Page; exact sub_parts0 rfl

theorem spl_api_Page_ID (x : T_api_Page) (y : Int) : spl (e_api_Page x) 0 [.i .i64 y] = some (e_api_Page ⟨y, x.LSN, x.Cells⟩) := by unfold e_api_Page; exact spl_parts0 rfl

theorem sub_api_Page_LSN (x : T_api_Page) : sub (e_api_Page x) 1 1 = some [.i .i64 x.LSN] := by
  have e0 : e_api_Page x = cat [.i .i64 x.ID] (cat [.i .i64 x.LSN] ((e_ar e_api_Cell) x.Cells)) := by unfold e_api_Page; simp only [cat, List.append_assoc]
  rw [e0]; exact sub_parts (by simp only [cat, List.length_append, List.length_cons, List.length_nil, (ar_len len_api_Cell x.Cells)]) rfl

theorem spl_api_Page_LSN (x : T_api_Page) (y : Int) : spl (e_api_Page x) 1 [.i .i64 y] = some (e_api_Page ⟨x.ID, y, x.Cells⟩) := by
  have e0 : e_api_Page x = cat [.i .i64 x.ID] (cat [.i .i64 x.LSN] ((e_ar e_api_Cell) x.Cells)) := by unfold e_api_Page; simp only [cat, List.append_assoc]
  have e1 : e_api_Page ⟨x.ID, y, x.Cells⟩ = cat [.i .i64 x.ID] (cat [.i .i64 y] ((e_ar e_api_Cell) x.Cells)) := by unfold e_api_Page; simp only [cat, List.append_assoc]
  rw [e0, e1]; exact spl_parts (by simp only [cat, List.length_append, List.length_cons, List.length_nil, (ar_len len_api_Cell x.Cells)]) rfl

theorem sub_api_Page_Cells (x : T_api_Page) : sub (e_api_Page x) 2 32 = some ((e_ar e_api_Cell) x.Cells) := by
  have e0 : e_api_Page x = cat (cat [.i .i64 x.ID] [.i .i64 x.LSN]) ((e_ar e_api_Cell) x.Cells) := by unfold e_api_Page; simp only [cat, List.append_assoc]
  rw [e0]; exact sub_partsE (by simp only [cat, List.length_append, List.length_cons, List.length_nil, (ar_len len_api_Cell x.Cells)]) (ar_len len_api_Cell _)

theorem spl_api_Page_Cells (x : T_api_Page) (y : Vector T_api_Cell 16) : spl (e_api_Page x) 2 ((e_ar e_api_Cell) y) = some (e_api_Page ⟨x.ID, x.LSN, y⟩) := by
  have e0 : e_api_Page x = cat (cat [.i .i64 x.ID] [.i .i64 x.LSN]) ((e_ar e_api_Cell) x.Cells) := by unfold e_api_Page; simp only [cat, List.append_assoc]
  have e1 : e_api_Page ⟨x.ID, x.LSN, y⟩ = cat (cat [.i .i64 x.ID] [.i .i64 x.LSN]) ((e_ar e_api_Cell) y) := by unfold e_api_Page; simp only [cat, List.append_assoc]
  rw [e0, e1]; exact spl_partsE (by simp only [cat, List.length_append, List.length_cons, List.length_nil, (ar_len len_api_Cell x.Cells)]) ((ar_len len_api_Cell _).trans (ar_len len_api_Cell _).symm)

theorem def_api_Page : (default : T_api_Page) = (⟨0, 0, (Vector.replicate 16 (⟨false, []⟩ : T_api_Cell))⟩ : T_api_Page) := rfl

theorem suba_api_Page (x : T_api_Page) : sub (e_api_Page x) 0 34 = some (e_api_Page x) := sub_all (len_api_Page x)

theorem spla_api_Page (x y : T_api_Page) : spl (e_api_Page x) 0 (e_api_Page y) = some (e_api_Page y) := spl_all ((len_api_Page x).trans (len_api_Page y).symm)

theorem B_api_Page : (∀ x : T_api_Page, (e_api_Page x).length = 34) ∧
  (∀ x : T_api_Page, sub (e_api_Page x) 0 1 = some [.i .i64 x.ID]) ∧
  (∀ (x : T_api_Page) (y : Int), spl (e_api_Page x) 0 [.i .i64 y] = some (e_api_Page ⟨y, x.LSN, x.Cells⟩)) ∧
  (∀ x : T_api_Page, sub (e_api_Page x) 1 1 = some [.i .i64 x.LSN]) ∧
  (∀ (x : T_api_Page) (y : Int), spl (e_api_Page x) 1 [.i .i64 y] = some (e_api_Page ⟨x.ID, y, x.Cells⟩)) ∧
  (∀ x : T_api_Page, sub (e_api_Page x) 2 32 = some ((e_ar e_api_Cell) x.Cells)) ∧
  (∀ (x : T_api_Page) (y : Vector T_api_Cell 16), spl (e_api_Page x) 2 ((e_ar e_api_Cell) y) = some (e_api_Page ⟨x.ID, x.LSN, y⟩)) ∧
  ((default : T_api_Page) = (⟨0, 0, (Vector.replicate 16 (⟨false, []⟩ : T_api_Cell))⟩ : T_api_Page)) ∧
  (∀ x : T_api_Page, sub (e_api_Page x) 0 34 = some (e_api_Page x)) ∧
  (∀ x y : T_api_Page, spl (e_api_Page x) 0 (e_api_Page y) = some (e_api_Page y)) :=
  ⟨@len_api_Page, @sub_api_Page_ID, @spl_api_Page_ID, @sub_api_Page_LSN, @spl_api_Page_LSN, @sub_api_Page_Cells, @spl_api_Page_Cells, def_api_Page, @suba_api_Page, @spla_api_Page⟩

theorem U_api_Page : (∀ x : T_api_Page, e_api_Page x = (cat [.i .i64 x.ID] (cat [.i .i64 x.LSN] ((e_ar e_api_Cell) x.Cells)))) ∧ (default : T_api_Page) = (⟨0, 0, (Vector.replicate 16 (⟨false, []⟩ : T_api_Cell))⟩ : T_api_Page) := ⟨fun _ => rfl, rfl⟩

structure T_pagemenddraw_Codes where
  l_ : List Int
  at_ : Int
  deriving DecidableEq

instance : Inhabited T_pagemenddraw_Codes := ⟨⟨[], 0⟩⟩

def e_pagemenddraw_Codes (x : T_pagemenddraw_Codes) : List PV := (cat [.sl 1 (List.map (r_i .u8) x.l_)] [.i .i64 x.at_])

theorem len_pagemenddraw_Codes (x : T_pagemenddraw_Codes) : (e_pagemenddraw_Codes x).length = 2 := by
  simp only [cat, e_pagemenddraw_Codes, List.length_append, List.length_cons, List.length_nil]

theorem sub_pagemenddraw_Codes_l_ (x : T_pagemenddraw_Codes) : sub (e_pagemenddraw_Codes x) 0 1 = some [.sl 1 (List.map (r_i .u8) x.l_)] := by unfold e_pagemenddraw_Codes; exact sub_parts0 rfl

theorem spl_pagemenddraw_Codes_l_ (x : T_pagemenddraw_Codes) (y : List Int) : spl (e_pagemenddraw_Codes x) 0 [.sl 1 (List.map (r_i .u8) y)] = some (e_pagemenddraw_Codes ⟨y, x.at_⟩) := by unfold e_pagemenddraw_Codes; exact spl_parts0 rfl

theorem sub_pagemenddraw_Codes_at_ (x : T_pagemenddraw_Codes) : sub (e_pagemenddraw_Codes x) 1 1 = some [.i .i64 x.at_] := by
  have e0 : e_pagemenddraw_Codes x = cat [.sl 1 (List.map (r_i .u8) x.l_)] [.i .i64 x.at_] := by unfold e_pagemenddraw_Codes; simp only [cat, List.append_assoc]
  rw [e0]; exact sub_partsE (by simp only [cat, List.length_append, List.length_cons, List.length_nil]) rfl

theorem spl_pagemenddraw_Codes_at_ (x : T_pagemenddraw_Codes) (y : Int) : spl (e_pagemenddraw_Codes x) 1 [.i .i64 y] = some (e_pagemenddraw_Codes ⟨x.l_, y⟩) := by
  have e0 : e_pagemenddraw_Codes x = cat [.sl 1 (List.map (r_i .u8) x.l_)] [.i .i64 x.at_] := by unfold e_pagemenddraw_Codes; simp only [cat, List.append_assoc]
  have e1 : e_pagemenddraw_Codes ⟨x.l_, y⟩ = cat [.sl 1 (List.map (r_i .u8) x.l_)] [.i .i64 y] := by unfold e_pagemenddraw_Codes; simp only [cat, List.append_assoc]
  rw [e0, e1]; exact spl_partsE (by simp only [cat, List.length_append, List.length_cons, List.length_nil]) rfl

theorem def_pagemenddraw_Codes : (default : T_pagemenddraw_Codes) = (⟨[], 0⟩ : T_pagemenddraw_Codes) := rfl

theorem suba_pagemenddraw_Codes (x : T_pagemenddraw_Codes) : sub (e_pagemenddraw_Codes x) 0 2 = some (e_pagemenddraw_Codes x) := sub_all (len_pagemenddraw_Codes x)

theorem spla_pagemenddraw_Codes (x y : T_pagemenddraw_Codes) : spl (e_pagemenddraw_Codes x) 0 (e_pagemenddraw_Codes y) = some (e_pagemenddraw_Codes y) := spl_all ((len_pagemenddraw_Codes x).trans (len_pagemenddraw_Codes y).symm)

theorem B_pagemenddraw_Codes : (∀ x : T_pagemenddraw_Codes, (e_pagemenddraw_Codes x).length = 2) ∧
  (∀ x : T_pagemenddraw_Codes, sub (e_pagemenddraw_Codes x) 0 1 = some [.sl 1 (List.map (r_i .u8) x.l_)]) ∧
  (∀ (x : T_pagemenddraw_Codes) (y : List Int), spl (e_pagemenddraw_Codes x) 0 [.sl 1 (List.map (r_i .u8) y)] = some (e_pagemenddraw_Codes ⟨y, x.at_⟩)) ∧
  (∀ x : T_pagemenddraw_Codes, sub (e_pagemenddraw_Codes x) 1 1 = some [.i .i64 x.at_]) ∧
  (∀ (x : T_pagemenddraw_Codes) (y : Int), spl (e_pagemenddraw_Codes x) 1 [.i .i64 y] = some (e_pagemenddraw_Codes ⟨x.l_, y⟩)) ∧
  ((default : T_pagemenddraw_Codes) = (⟨[], 0⟩ : T_pagemenddraw_Codes)) ∧
  (∀ x : T_pagemenddraw_Codes, sub (e_pagemenddraw_Codes x) 0 2 = some (e_pagemenddraw_Codes x)) ∧
  (∀ x y : T_pagemenddraw_Codes, spl (e_pagemenddraw_Codes x) 0 (e_pagemenddraw_Codes y) = some (e_pagemenddraw_Codes y)) :=
  ⟨@len_pagemenddraw_Codes, @sub_pagemenddraw_Codes_l_, @spl_pagemenddraw_Codes_l_, @sub_pagemenddraw_Codes_at_, @spl_pagemenddraw_Codes_at_, def_pagemenddraw_Codes, @suba_pagemenddraw_Codes, @spla_pagemenddraw_Codes⟩

theorem U_pagemenddraw_Codes : (∀ x : T_pagemenddraw_Codes, e_pagemenddraw_Codes x = (cat [.sl 1 (List.map (r_i .u8) x.l_)] [.i .i64 x.at_])) ∧ (default : T_pagemenddraw_Codes) = (⟨[], 0⟩ : T_pagemenddraw_Codes) := ⟨fun _ => rfl, rfl⟩

structure T_page_builder where
  s_ : List UInt8
  deriving DecidableEq

instance : Inhabited T_page_builder := ⟨⟨[]⟩⟩

def e_page_builder (x : T_page_builder) : List PV := [.s x.s_]

theorem len_page_builder (x : T_page_builder) : (e_page_builder x).length = 1 := by
  simp only [cat, e_page_builder, List.length_append, List.length_cons, List.length_nil]

theorem sub_page_builder_s_ (x : T_page_builder) : sub (e_page_builder x) 0 1 = some [.s x.s_] := by unfold e_page_builder; exact sub_all rfl

theorem spl_page_builder_s_ (x : T_page_builder) (y : List UInt8) : spl (e_page_builder x) 0 [.s y] = some (e_page_builder ⟨y⟩) := by unfold e_page_builder; exact spl_all rfl

theorem def_page_builder : (default : T_page_builder) = (⟨[]⟩ : T_page_builder) := rfl

theorem B_page_builder : (∀ x : T_page_builder, (e_page_builder x).length = 1) ∧
  (∀ x : T_page_builder, sub (e_page_builder x) 0 1 = some [.s x.s_]) ∧
  (∀ (x : T_page_builder) (y : List UInt8), spl (e_page_builder x) 0 [.s y] = some (e_page_builder ⟨y⟩)) ∧
  ((default : T_page_builder) = (⟨[]⟩ : T_page_builder)) :=
  ⟨@len_page_builder, @sub_page_builder_s_, @spl_page_builder_s_, def_page_builder⟩

theorem U_page_builder : (∀ x : T_page_builder, e_page_builder x = [.s x.s_]) ∧ (default : T_page_builder) = (⟨[]⟩ : T_page_builder) := ⟨fun _ => rfl, rfl⟩

theorem B_ar_earriu3216 : (∀ v : Vector Int 16, (e_ar (r_i .u32) v).length = 16) ∧ (∀ v : Vector Int 16, sub (e_ar (r_i .u32) v) 0 16 = some (e_ar (r_i .u32) v)) ∧ (∀ v y : Vector Int 16, spl (e_ar (r_i .u32) v) 0 (e_ar (r_i .u32) y) = some (e_ar (r_i .u32) y)) :=
  ⟨fun v => ar_len (r_i_len .u32) v, fun v => sub_all (ar_len (r_i_len .u32) v), fun v y => spl_all ((ar_len (r_i_len .u32) v).trans (ar_len (r_i_len .u32) y).symm)⟩

end Go.Am
