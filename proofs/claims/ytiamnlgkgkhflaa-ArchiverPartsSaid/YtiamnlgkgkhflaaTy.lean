/-
  The types of the program, and their cells; written by a program from the translation.
-/
import Derived.Test.YtiamnlgkgkhflaaAmEv
namespace Go.Am
set_option linter.unusedSimpArgs false
set_option linter.unusedVariables false

structure T_api_File where
  Kind : Int
  ID : Int
  Data : List UInt8
  deriving DecidableEq

instance : Inhabited T_api_File := ⟨⟨0, 0, []⟩⟩

def e_api_File (x : T_api_File) : List PV := (cat [.i .i64 x.Kind] (cat [.i .i64 x.ID] [.s x.Data]))

theorem len_api_File (x : T_api_File) : (e_api_File x).length = 3 := by
  simp only [cat, e_api_File, List.length_append, List.length_cons, List.length_nil]

theorem sub_api_File_Kind (x : T_api_File) : sub (e_api_File x) 0 1 = some [.i .i64 x.Kind] := by unfold e_api_File; exact sub_parts0 rfl

theorem spl_api_File_Kind (x : T_api_File) (y : Int) : spl (e_api_File x) 0 [.i .i64 y] = some (e_api_File ⟨y, x.ID, x.Data⟩) := by unfold e_api_File; exact spl_parts0 rfl

theorem sub_api_File_ID (x : T_api_File) : sub (e_api_File x) 1 1 = some [.i .i64 x.ID] := by
  have e0 : e_api_File x = cat [.i .i64 x.Kind] (cat [.i .i64 x.ID] [.s x.Data]) := by unfold e_api_File; simp only [cat, List.append_assoc]
  rw [e0]; exact sub_parts (by simp only [cat, List.length_append, List.length_cons, List.length_nil]) rfl

theorem spl_api_File_ID (x : T_api_File) (y : Int) : spl (e_api_File x) 1 [.i .i64 y] = some (e_api_File ⟨x.Kind, y, x.Data⟩) := by
  have e0 : e_api_File x = cat [.i .i64 x.Kind] (cat [.i .i64 x.ID] [.s x.Data]) := by unfold e_api_File; simp only [cat, List.append_assoc]
  have e1 : e_api_File ⟨x.Kind, y, x.Data⟩ = cat [.i .i64 x.Kind] (cat [.i .i64 y] [.s x.Data]) := by unfold e_api_File; simp only [cat, List.append_assoc]
  rw [e0, e1]; exact spl_parts (by simp only [cat, List.length_append, List.length_cons, List.length_nil]) rfl

theorem sub_api_File_Data (x : T_api_File) : sub (e_api_File x) 2 1 = some [.s x.Data] := by
  have e0 : e_api_File x = cat (cat [.i .i64 x.Kind] [.i .i64 x.ID]) [.s x.Data] := by unfold e_api_File; simp only [cat, List.append_assoc]
  rw [e0]; exact sub_partsE (by simp only [cat, List.length_append, List.length_cons, List.length_nil]) rfl

theorem spl_api_File_Data (x : T_api_File) (y : List UInt8) : spl (e_api_File x) 2 [.s y] = some (e_api_File ⟨x.Kind, x.ID, y⟩) := by
  have e0 : e_api_File x = cat (cat [.i .i64 x.Kind] [.i .i64 x.ID]) [.s x.Data] := by unfold e_api_File; simp only [cat, List.append_assoc]
  have e1 : e_api_File ⟨x.Kind, x.ID, y⟩ = cat (cat [.i .i64 x.Kind] [.i .i64 x.ID]) [.s y] := by unfold e_api_File; simp only [cat, List.append_assoc]
  rw [e0, e1]; exact spl_partsE (by simp only [cat, List.length_append, List.length_cons, List.length_nil]) rfl

theorem def_api_File : (default : T_api_File) = (⟨0, 0, []⟩ : T_api_File) := rfl

theorem suba_api_File (x : T_api_File) : sub (e_api_File x) 0 3 = some (e_api_File x) := sub_all (len_api_File x)

theorem spla_api_File (x y : T_api_File) : spl (e_api_File x) 0 (e_api_File y) = some (e_api_File y) := spl_all ((len_api_File x).trans (len_api_File y).symm)

theorem B_api_File : (∀ x : T_api_File, (e_api_File x).length = 3) ∧
  (∀ x : T_api_File, sub (e_api_File x) 0 1 = some [.i .i64 x.Kind]) ∧
  (∀ (x : T_api_File) (y : Int), spl (e_api_File x) 0 [.i .i64 y] = some (e_api_File ⟨y, x.ID, x.Data⟩)) ∧
  (∀ x : T_api_File, sub (e_api_File x) 1 1 = some [.i .i64 x.ID]) ∧
  (∀ (x : T_api_File) (y : Int), spl (e_api_File x) 1 [.i .i64 y] = some (e_api_File ⟨x.Kind, y, x.Data⟩)) ∧
  (∀ x : T_api_File, sub (e_api_File x) 2 1 = some [.s x.Data]) ∧
  (∀ (x : T_api_File) (y : List UInt8), spl (e_api_File x) 2 [.s y] = some (e_api_File ⟨x.Kind, x.ID, y⟩)) ∧
  ((default : T_api_File) = (⟨0, 0, []⟩ : T_api_File)) ∧
  (∀ x : T_api_File, sub (e_api_File x) 0 3 = some (e_api_File x)) ∧
  (∀ x y : T_api_File, spl (e_api_File x) 0 (e_api_File y) = some (e_api_File y)) :=
  ⟨@len_api_File, @sub_api_File_Kind, @spl_api_File_Kind, @sub_api_File_ID, @spl_api_File_ID, @sub_api_File_Data, @spl_api_File_Data, def_api_File, @suba_api_File, @spla_api_File⟩

theorem U_api_File : (∀ x : T_api_File, e_api_File x = (cat [.i .i64 x.Kind] (cat [.i .i64 x.ID] [.s x.Data]))) ∧ (default : T_api_File) = (⟨0, 0, []⟩ : T_api_File) := ⟨fun _ => rfl, rfl⟩

structure T_api_Archive where
  Bounds : List Int
  Pages : Int
  Files : List T_api_File
  Next : Int
  Serial : Int
  deriving DecidableEq

instance : Inhabited T_api_Archive := ⟨⟨[], 0, [], 0, 0⟩⟩

def e_api_Archive (x : T_api_Archive) : List PV := (cat [.sl 1 (List.map (r_i .i64) x.Bounds)] (cat [.i .i64 x.Pages] (cat [.sl 3 (List.map e_api_File x.Files)] (cat [.i .i64 x.Next] [.i .i64 x.Serial]))))

theorem len_api_Archive (x : T_api_Archive) : (e_api_Archive x).length = 5 := by
  simp only [cat, e_api_Archive, List.length_append, List.length_cons, List.length_nil]

theorem sub_api_Archive_Bounds (x : T_api_Archive) : sub (e_api_Archive x) 0 1 = some [.sl 1 (List.map (r_i .i64) x.Bounds)] := by unfold e_api_Archive; exact sub_parts0 rfl

theorem spl_api_Archive_Bounds (x : T_api_Archive) (y : List Int) : spl (e_api_Archive x) 0 [.sl 1 (List.map (r_i .i64) y)] = some (e_api_Archive ⟨y, x.Pages, x.Files, x.Next, x.Serial⟩) := by unfold e_api_Archive; exact spl_parts0 rfl

theorem sub_api_Archive_Pages (x : T_api_Archive) : sub (e_api_Archive x) 1 1 = some [.i .i64 x.Pages] := by
  have e0 : e_api_Archive x = cat [.sl 1 (List.map (r_i .i64) x.Bounds)] (cat [.i .i64 x.Pages] (cat [.sl 3 (List.map e_api_File x.Files)] (cat [.i .i64 x.Next] [.i .i64 x.Serial]))) := by unfold e_api_Archive; simp only [cat, List.append_assoc]
  rw [e0]; exact sub_parts (by simp only [cat, List.length_append, List.length_cons, List.length_nil]) rfl

theorem spl_api_Archive_Pages (x : T_api_Archive) (y : Int) : spl (e_api_Archive x) 1 [.i .i64 y] = some (e_api_Archive ⟨x.Bounds, y, x.Files, x.Next, x.Serial⟩) := by
  have e0 : e_api_Archive x = cat [.sl 1 (List.map (r_i .i64) x.Bounds)] (cat [.i .i64 x.Pages] (cat [.sl 3 (List.map e_api_File x.Files)] (cat [.i .i64 x.Next] [.i .i64 x.Serial]))) := by unfold e_api_Archive; simp only [cat, List.append_assoc]
  have e1 : e_api_Archive ⟨x.Bounds, y, x.Files, x.Next, x.Serial⟩ = cat [.sl 1 (List.map (r_i .i64) x.Bounds)] (cat [.i .i64 y] (cat [.sl 3 (List.map e_api_File x.Files)] (cat [.i .i64 x.Next] [.i .i64 x.Serial]))) := by unfold e_api_Archive; simp only [cat, List.append_assoc]
  rw [e0, e1]; exact spl_parts (by simp only [cat, List.length_append, List.length_cons, List.length_nil]) rfl

theorem sub_api_Archive_Files (x : T_api_Archive) : sub (e_api_Archive x) 2 1 = some [.sl 3 (List.map e_api_File x.Files)] := by
  have e0 : e_api_Archive x = cat (cat [.sl 1 (List.map (r_i .i64) x.Bounds)] [.i .i64 x.Pages]) (cat [.sl 3 (List.map e_api_File x.Files)] (cat [.i .i64 x.Next] [.i .i64 x.Serial])) := by unfold e_api_Archive; simp only [cat, List.append_assoc]
  rw [e0]; exact sub_parts (by simp only [cat, List.length_append, List.length_cons, List.length_nil]) rfl

theorem spl_api_Archive_Files (x : T_api_Archive) (y : List T_api_File) : spl (e_api_Archive x) 2 [.sl 3 (List.map e_api_File y)] = some (e_api_Archive ⟨x.Bounds, x.Pages, y, x.Next, x.Serial⟩) := by
  have e0 : e_api_Archive x = cat (cat [.sl 1 (List.map (r_i .i64) x.Bounds)] [.i .i64 x.Pages]) (cat [.sl 3 (List.map e_api_File x.Files)] (cat [.i .i64 x.Next] [.i .i64 x.Serial])) := by unfold e_api_Archive; simp only [cat, List.append_assoc]
  have e1 : e_api_Archive ⟨x.Bounds, x.Pages, y, x.Next, x.Serial⟩ = cat (cat [.sl 1 (List.map (r_i .i64) x.Bounds)] [.i .i64 x.Pages]) (cat [.sl 3 (List.map e_api_File y)] (cat [.i .i64 x.Next] [.i .i64 x.Serial])) := by unfold e_api_Archive; simp only [cat, List.append_assoc]
  rw [e0, e1]; exact spl_parts (by simp only [cat, List.length_append, List.length_cons, List.length_nil]) rfl

theorem sub_api_Archive_Next (x : T_api_Archive) : sub (e_api_Archive x) 3 1 = some [.i .i64 x.Next] := by
  have e0 : e_api_Archive x = cat (cat [.sl 1 (List.map (r_i .i64) x.Bounds)] (cat [.i .i64 x.Pages] [.sl 3 (List.map e_api_File x.Files)])) (cat [.i .i64 x.Next] [.i .i64 x.Serial]) := by unfold e_api_Archive; simp only [cat, List.append_assoc]
  rw [e0]; exact sub_parts (by simp only [cat, List.length_append, List.length_cons, List.length_nil]) rfl

theorem spl_api_Archive_Next (x : T_api_Archive) (y : Int) : spl (e_api_Archive x) 3 [.i .i64 y] = some (e_api_Archive ⟨x.Bounds, x.Pages, x.Files, y, x.Serial⟩) := by
  have e0 : e_api_Archive x = cat (cat [.sl 1 (List.map (r_i .i64) x.Bounds)] (cat [.i .i64 x.Pages] [.sl 3 (List.map e_api_File x.Files)])) (cat [.i .i64 x.Next] [.i .i64 x.Serial]) := by unfold e_api_Archive; simp only [cat, List.append_assoc]
  have e1 : e_api_Archive ⟨x.Bounds, x.Pages, x.Files, y, x.Serial⟩ = cat (cat [.sl 1 (List.map (r_i .i64) x.Bounds)] (cat [.i .i64 x.Pages] [.sl 3 (List.map e_api_File x.Files)])) (cat [.i .i64 y] [.i .i64 x.Serial]) := by unfold e_api_Archive; simp only [cat, List.append_assoc]
  rw [e0, e1]; exact spl_parts (by simp only [cat, List.length_append, List.length_cons, List.length_nil]) rfl

theorem sub_api_Archive_Serial (x : T_api_Archive) : sub (e_api_Archive x) 4 1 = some [.i .i64 x.Serial] := by
  have e0 : e_api_Archive x = cat (cat [.sl 1 (List.map (r_i .i64) x.Bounds)] (cat [.i .i64 x.Pages] (cat [.sl 3 (List.map e_api_File x.Files)] [.i .i64 x.Next]))) [.i .i64 x.Serial] := by unfold e_api_Archive; simp only [cat, List.append_assoc]
  rw [e0]; exact sub_partsE (by simp only [cat, List.length_append, List.length_cons, List.length_nil]) rfl

theorem spl_api_Archive_Serial (x : T_api_Archive) (y : Int) : spl (e_api_Archive x) 4 [.i .i64 y] = some (e_api_Archive ⟨x.Bounds, x.Pages, x.Files, x.Next, y⟩) := by
  have e0 : e_api_Archive x = cat (cat [.sl 1 (List.map (r_i .i64) x.Bounds)] (cat [.i .i64 x.Pages] (cat [.sl 3 (List.map e_api_File x.Files)] [.i .i64 x.Next]))) [.i .i64 x.Serial] := by unfold e_api_Archive; simp only [cat, List.append_assoc]
  have e1 : e_api_Archive ⟨x.Bounds, x.Pages, x.Files, x.Next, y⟩ = cat (cat [.sl 1 (List.map (r_i .i64) x.Bounds)] (cat [.i .i64 x.Pages] (cat [.sl 3 (List.map e_api_File x.Files)] [.i .i64 x.Next]))) [.i .i64 y] := by unfold e_api_Archive; simp only [cat, List.append_assoc]
  rw [e0, e1]; exact spl_partsE (by simp only [cat, List.length_append, List.length_cons, List.length_nil]) rfl

theorem def_api_Archive : (default : T_api_Archive) = (⟨[], 0, [], 0, 0⟩ : T_api_Archive) := rfl

theorem suba_api_Archive (x : T_api_Archive) : sub (e_api_Archive x) 0 5 = some (e_api_Archive x) := sub_all (len_api_Archive x)

theorem spla_api_Archive (x y : T_api_Archive) : spl (e_api_Archive x) 0 (e_api_Archive y) = some (e_api_Archive y) := spl_all ((len_api_Archive x).trans (len_api_Archive y).symm)

theorem B_api_Archive : (∀ x : T_api_Archive, (e_api_Archive x).length = 5) ∧
  (∀ x : T_api_Archive, sub (e_api_Archive x) 0 1 = some [.sl 1 (List.map (r_i .i64) x.Bounds)]) ∧
  (∀ (x : T_api_Archive) (y : List Int), spl (e_api_Archive x) 0 [.sl 1 (List.map (r_i .i64) y)] = some (e_api_Archive ⟨y, x.Pages, x.Files, x.Next, x.Serial⟩)) ∧
  (∀ x : T_api_Archive, sub (e_api_Archive x) 1 1 = some [.i .i64 x.Pages]) ∧
  (∀ (x : T_api_Archive) (y : Int), spl (e_api_Archive x) 1 [.i .i64 y] = some (e_api_Archive ⟨x.Bounds, y, x.Files, x.Next, x.Serial⟩)) ∧
  (∀ x : T_api_Archive, sub (e_api_Archive x) 2 1 = some [.sl 3 (List.map e_api_File x.Files)]) ∧
  (∀ (x : T_api_Archive) (y : List T_api_File), spl (e_api_Archive x) 2 [.sl 3 (List.map e_api_File y)] = some (e_api_Archive ⟨x.Bounds, x.Pages, y, x.Next, x.Serial⟩)) ∧
  (∀ x : T_api_Archive, sub (e_api_Archive x) 3 1 = some [.i .i64 x.Next]) ∧
  (∀ (x : T_api_Archive) (y : Int), spl (e_api_Archive x) 3 [.i .i64 y] = some (e_api_Archive ⟨x.Bounds, x.Pages, x.Files, y, x.Serial⟩)) ∧
  (∀ x : T_api_Archive, sub (e_api_Archive x) 4 1 = some [.i .i64 x.Serial]) ∧
  (∀ (x : T_api_Archive) (y : Int), spl (e_api_Archive x) 4 [.i .i64 y] = some (e_api_Archive ⟨x.Bounds, x.Pages, x.Files, x.Next, y⟩)) ∧
  ((default : T_api_Archive) = (⟨[], 0, [], 0, 0⟩ : T_api_Archive)) ∧
  (∀ x : T_api_Archive, sub (e_api_Archive x) 0 5 = some (e_api_Archive x)) ∧
  (∀ x y : T_api_Archive, spl (e_api_Archive x) 0 (e_api_Archive y) = some (e_api_Archive y)) :=
  ⟨@len_api_Archive, @sub_api_Archive_Bounds, @spl_api_Archive_Bounds, @sub_api_Archive_Pages, @spl_api_Archive_Pages, @sub_api_Archive_Files, @spl_api_Archive_Files, @sub_api_Archive_Next, @spl_api_Archive_Next, @sub_api_Archive_Serial, @spl_api_Archive_Serial, def_api_Archive, @suba_api_Archive, @spla_api_Archive⟩

theorem U_api_Archive : (∀ x : T_api_Archive, e_api_Archive x = (cat [.sl 1 (List.map (r_i .i64) x.Bounds)] (cat [.i .i64 x.Pages] (cat [.sl 3 (List.map e_api_File x.Files)] (cat [.i .i64 x.Next] [.i .i64 x.Serial]))))) ∧ (default : T_api_Archive) = (⟨[], 0, [], 0, 0⟩ : T_api_Archive) := ⟨fun _ => rfl, rfl⟩

structure T_pagemenddraw_Codes where
  l_ : List Int
  at_ : Int
  deriving DecidableEq

instance : Inhabited T_pagemenddraw_Codes := ⟨⟨[], 0⟩⟩

def e_pagemenddraw_Codes (x : T_pagemenddraw_Codes) : List PV := (cat [.sl 1 (List.map (r_i .u8) x.l_)] [.i .i64 x.at_])

theorem len_pagemenddraw_Codes (x : T_pagemenddraw_Codes) : (e_pagemenddraw_Codes x).length = 2 := by
  simp only [cat, e_pagemenddraw_Codes, List.length_append, List.length_cons, List.length_nil]

theorem sub_pagemenddraw_Codes_l_ (x : T_pagemenddraw_Codes) : sub (e_pagemenddraw_Codes x) 0 1 = some [.sl 1 (List.map (r_i .u8) x.l_)] := by unfold e_pagemenddraw_Codes; exact sub_parts0 rfl

theorem spl_pagemenddraw_Codes_l_ (x : T_pagemenddraw_Codes) (y : List Int) : spl (e_pagemenddraw_Codes x) 0 [.sl 1 (List.map (r_i .u8) y)] = some (e_pagemenddraw_Codes ⟨y, x.at_⟩) := by unfold e_pagemenddraw_Codes; exact spl_parts0 rfl

theorem sub_pagemenddraw_Codes_at_ (x : T_pagemenddraw_Codes) : sub (e_pagemenddraw_Codes x) 1 1 = some [.i .i64 x.at_] := by
  have e0 : e_pagemenddraw_Codes x = cat [.sl 1 (List.map (r_i .u8) x.l_)] [.i .i64 x.at_] := by unfold e_pagemenddraw_Codes; simp only [cat, List.append_assoc]
  rw [e0]; exact sub_partsE (by simp only [cat, List.length_append, List.length_cons, List.length_nil]) rfl

theorem spl_pagemenddraw_Codes_at_ (x : T_pagemenddraw_Codes) (y : Int) : spl (e_pagemenddraw_Codes x) 1 [.i .i64 y] = some (e_pagemenddraw_Codes ⟨x.l_, y⟩) := by
  have e0 : e_pagemenddraw_Codes x = cat [.sl 1 (List.map (r_i .u8) x.l_)] [.i .i64 x.at_] := by unfold e_pagemenddraw_Codes; simp only [cat, List.append_assoc]
  have e1 : e_pagemenddraw_Codes ⟨x.l_, y⟩ = cat [.sl 1 (List.map (r_i .u8) x.l_)] [.i .i64 y] := by unfold e_pagemenddraw_Codes; simp only [cat, List.append_assoc]
  rw [e0, e1]; exact spl_partsE (by simp only [cat, List.length_append, List.length_cons, List.length_nil]) rfl

theorem def_pagemenddraw_Codes : (default : T_pagemenddraw_Codes) = (⟨[], 0⟩ : T_pagemenddraw_Codes) := rfl

theorem suba_pagemenddraw_Codes (x : T_pagemenddraw_Codes) : sub (e_pagemenddraw_Codes x) 0 2 = some (e_pagemenddraw_Codes x) := sub_all (len_pagemenddraw_Codes x)

theorem spla_pagemenddraw_Codes (x y : T_pagemenddraw_Codes) : spl (e_pagemenddraw_Codes x) 0 (e_pagemenddraw_Codes y) = some (e_pagemenddraw_Codes y) := spl_all ((len_pagemenddraw_Codes x).trans (len_pagemenddraw_Codes y).symm)

theorem B_pagemenddraw_Codes : (∀ x : T_pagemenddraw_Codes, (e_pagemenddraw_Codes x).length = 2) ∧
  (∀ x : T_pagemenddraw_Codes, sub (e_pagemenddraw_Codes x) 0 1 = some [.sl 1 (List.map (r_i .u8) x.l_)]) ∧
  (∀ (x : T_pagemenddraw_Codes) (y : List Int), spl (e_pagemenddraw_Codes x) 0 [.sl 1 (List.map (r_i .u8) y)] = some (e_pagemenddraw_Codes ⟨y, x.at_⟩)) ∧
  (∀ x : T_pagemenddraw_Codes, sub (e_pagemenddraw_Codes x) 1 1 = some [.i .i64 x.at_]) ∧
  (∀ (x : T_pagemenddraw_Codes) (y : Int), spl (e_pagemenddraw_Codes x) 1 [.i .i64 y] = some (e_pagemenddraw_Codes ⟨x.l_, y⟩)) ∧
  ((default : T_pagemenddraw_Codes) = (⟨[], 0⟩ : T_pagemenddraw_Codes)) ∧
  (∀ x : T_pagemenddraw_Codes, sub (e_pagemenddraw_Codes x) 0 2 = some (e_pagemenddraw_Codes x)) ∧
  (∀ x y : T_pagemenddraw_Codes, spl (e_pagemenddraw_Codes x) 0 (e_pagemenddraw_Codes y) = some (e_pagemenddraw_Codes y)) :=
  ⟨@len_pagemenddraw_Codes, @sub_pagemenddraw_Codes_l_, @spl_pagemenddraw_Codes_l_, @sub_pagemenddraw_Codes_at_, @spl_pagemenddraw_Codes_at_, def_pagemenddraw_Codes, @suba_pagemenddraw_Codes, @spla_pagemenddraw_Codes⟩

theorem U_pagemenddraw_Codes : (∀ x : T_pagemenddraw_Codes, e_pagemenddraw_Codes x = (cat [.sl 1 (List.map (r_i .u8) x.l_)] [.i .i64 x.at_])) ∧ (default : T_pagemenddraw_Codes) = (⟨[], 0⟩ : T_pagemenddraw_Codes) := ⟨fun _ => rfl, rfl⟩

end Go.Am
