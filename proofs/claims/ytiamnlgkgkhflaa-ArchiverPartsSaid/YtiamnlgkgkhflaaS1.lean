/-
  What the functions do, with types; written by a program from the translation.
-/
import Derived.Test.YtiamnlgkgkhflaaFns
namespace Go.Am
set_option linter.unusedSimpArgs false
set_option linter.unusedVariables false

noncomputable section
variable (p : FuncId → Option (List AV → List Blk → Option Res))

/-! pagemend/pagemenddraw.New -/

def d_draw_New (r : T_pagemenddraw_Codes) : Option Res := some (.ptr 0 0, [.box (List.map AV.p (e_pagemenddraw_Codes r))])

def S_draw_New_0 (x0 : List Int) : Option (T_pagemenddraw_Codes) :=
  some (⟨x0, 0⟩ : T_pagemenddraw_Codes)

theorem e_draw_New_0 {x0 : List Int} {o : T_pagemenddraw_Codes} (h : S_draw_New_0 x0 = some o) :
    rk (tabOf p) f_draw_New 0 [] (X (tabOf p) c_draw_New_0 ⟨[(0, .p (.sl 1 (List.map (r_i .u8) x0)))], []⟩) = d_draw_New o := by
  unfold S_draw_New_0 at h
  obtain rfl := Option.some.inj h
  simp only [↓Da1, ↓Da2, ↓Da3, Ua1, Ua2, Ua3, Ua4, Ua5, Ua6, Ua7, Ua8, Ua9, Ua10, c_draw_New_0, B_pagemenddraw_Codes, z_draw_New, ↓reduceIte, Nat.reduceEqDiff, Nat.reduceAdd, Nat.reduceLT, Nat.reduceMul]
  rfl


def S_draw_New (x0 : List Int) (x1 : Int) : Option (T_pagemenddraw_Codes) :=
  if (decide (((List.length x0 : Nat) : Int) > x1)) then
    Option.bind (slcS x0 none (some x1)) fun m2 =>
    S_draw_New_0 m2
  else
    S_draw_New_0 x0

theorem e_draw_New_top {x0 : List Int} {x1 : Int} {o : T_pagemenddraw_Codes} (h : S_draw_New x0 x1 = some o) :
    rk (tabOf p) f_draw_New 0 [] (X (tabOf p) c_draw_New ⟨[(0, .p (.sl 1 (List.map (r_i .u8) x0))), (1, .p (.i .i64 x1))], []⟩) = d_draw_New o := by
  unfold S_draw_New at h
  rcases ite_inv h with ⟨h1, h⟩ | ⟨h1, h⟩
  · obtain ⟨m2, h3, h⟩ := Option.bind_eq_some_iff.1 h
    have f4 : sliceL 1 (.p (.sl 1 (List.map (r_i .u8) x0))) none (some (.p (.i .i64 x1))) = some (.p (.sl 1 (List.map (r_i .u8) m2))) := sliceL_ok (k := .i64) (lo := none) (hi := (some x1)) h3
    try simp only [Nf] at f4
    simp only [↓Da1, ↓Da2, ↓Da3, Ua1, Ua2, Ua3, Ua4, Ua5, Ua6, Ua7, Ua8, Ua9, Ua10, c_draw_New, B_pagemenddraw_Codes, h1, f4, ↓reduceIte, Nat.reduceEqDiff, Nat.reduceAdd, Nat.reduceLT, Nat.reduceMul]
    have e0 := e_draw_New_0 p h
    exact e0
  · simp only [↓Da1, ↓Da2, ↓Da3, Ua1, Ua2, Ua3, Ua4, Ua5, Ua6, Ua7, Ua8, Ua9, Ua10, c_draw_New, B_pagemenddraw_Codes, h1, ↓reduceIte, Nat.reduceEqDiff, Nat.reduceAdd, Nat.reduceLT, Nat.reduceMul]
    have e0 := e_draw_New_0 p h
    exact e0


theorem e_draw_New {x0 : List Int} {x1 : Int} {o : T_pagemenddraw_Codes} (h : S_draw_New x0 x1 = some o) : AF (tabOf p) i_draw_New [.p (.sl 1 (List.map (r_i .u8) x0)), .p (.i .i64 x1)] [] = d_draw_New o :=
  (AF_rk (tabOf p) (t_draw_New p) rfl).trans (e_draw_New_top p h)

/-! slices.Clone[[]int,int] -/

def d_slices_Clone_int_int (r : List Int) : Option Res := some (.p (.sl 1 (List.map (r_i .i64) r)), [])

def S_slices_Clone_int_int (x0 : List Int) : Option (List Int) := if (2 * x0.length + 512) * 8 ≤ 281474976710656 then some x0 else none

theorem e_slices_Clone_int_int {x0 : List Int} {o : List Int} (h : S_slices_Clone_int_int x0 = some o) : AF (tabOf p) i_slices_Clone_int_int [.p (.sl 1 (List.map (r_i .i64) x0))] [] = d_slices_Clone_int_int o := by
  unfold S_slices_Clone_int_int at h
  split at h
  · rename_i h2
    injection h with h; subst h
    rw [AF_fn _ (t_slices_Clone_int_int p)]
    cases x0 with
    | nil => simp [f_slices_Clone_int_int, c_slices_Clone_int_int, d_slices_Clone_int_int]
    | cons a r =>
      simp at h2
      simp [f_slices_Clone_int_int, c_slices_Clone_int_int, d_slices_Clone_int_int, h2]
  · cases h

/-! pagemend/archiver.Valid -/

def d_archiver_Valid (r : Bool) : Option Res := some (.p (.b r), [])

def d_archiver_Valid_0 (x3 : Int) (b0 : T_api_Archive) (o : (Int) ⊕ (Bool)) : Option Res := match o with
  | .inl s => rk (tabOf p) f_archiver_Valid 0 [.bl 0, .sq (.keep [1] c_archiver_Valid_3)] (X (tabOf p) (.lp 1 [1, 3, 4] c_archiver_Valid_0) ⟨[(1, .ptr 0 0), (3, .p (.i .i64 x3)), (4, .p (.i .i64 s))], [.box (List.map AV.p (e_api_Archive b0))]⟩)
  | .inr o => d_archiver_Valid o

def d_archiver_Valid_1 (x87 : List T_api_File) (x88 : Int) (b0 : T_api_Archive) (o : (Int × Int) ⊕ (Bool)) : Option Res := match o with
  | .inl s => rk (tabOf p) f_archiver_Valid 0 [.bl 2, .td 1 [2], .sq (.keep [] c_archiver_Valid_2)] (X (tabOf p) (.lp 1 [1, 5, 87, 88, 89] c_archiver_Valid_1) ⟨[(1, .ptr 0 0), (5, .p (.i .i64 s.1)), (87, .p (.sl 3 (List.map e_api_File x87))), (88, .p (.i .i64 x88)), (89, .p (.i .i64 s.2))], [.box (List.map AV.p (e_api_Archive b0))]⟩)
  | .inr o => d_archiver_Valid o

def S_archiver_Valid_2  : Option (Bool) :=
  some true

theorem e_archiver_Valid_2 {B0 : Blk} {o : Bool} (h : S_archiver_Valid_2 = some o) :
    rk (tabOf p) f_archiver_Valid 0 [] (X (tabOf p) c_archiver_Valid_2 ⟨[], [B0]⟩) = d_archiver_Valid o := by
  unfold S_archiver_Valid_2 at h
  obtain rfl := Option.some.inj h
  simp only [↓Da1, ↓Da2, ↓Da3, Ua1, Ua2, Ua3, Ua4, Ua5, Ua6, Ua7, Ua8, Ua9, Ua10, c_archiver_Valid_2, z_archiver_Valid, ↓reduceIte, Nat.reduceEqDiff, Nat.reduceAdd, Nat.reduceLT, Nat.reduceMul]
  rfl


def S_archiver_Valid_1 (x87 : List T_api_File) (x88 : Int) (b0 : T_api_Archive) (x5 : Int) (x89 : Int) : Option (((Int × Int) ⊕ (Bool))) :=
  if (decide (x89 < x88)) then
    Option.bind (idx x87 x89) fun y2 =>
    if (decide (y2.ID ≤ x5)) then
      some (.inr false)
    else
      if (decide (y2.ID ≥ b0.Serial)) then
        some (.inr false)
      else
        some (.inl (y2.ID, (IntKind.wrap .i64 (x89 + 1))))
  else
    Option.map (fun o => .inr o) (S_archiver_Valid_2)

theorem e_archiver_Valid_1 {x87 : List T_api_File} {x88 : Int} {b0 : T_api_Archive} {x5 : Int} {x89 : Int} {o : ((Int × Int) ⊕ (Bool))} (h : S_archiver_Valid_1 x87 x88 b0 x5 x89 = some o) :
    rk (tabOf p) f_archiver_Valid 0 [.lo 1 [1, 5, 87, 88, 89] c_archiver_Valid_1, .bl 2, .td 1 [2], .sq (.keep [] c_archiver_Valid_2)] (X (tabOf p) c_archiver_Valid_1 ⟨[(1, .ptr 0 0), (5, .p (.i .i64 x5)), (87, .p (.sl 3 (List.map e_api_File x87))), (88, .p (.i .i64 x88)), (89, .p (.i .i64 x89))], [.box (List.map AV.p (e_api_Archive b0))]⟩) = (d_archiver_Valid_1 p x87 x88 b0) o := by
  unfold S_archiver_Valid_1 at h
  rcases ite_inv h with ⟨h1, h⟩ | ⟨h1, h⟩
  · obtain ⟨y2, h3, h⟩ := Option.bind_eq_some_iff.1 h
    have f4 := rowAt_idx (r := e_api_File) h3
    try simp only [Nf] at f4
    rcases ite_inv h with ⟨h5, h⟩ | ⟨h5, h⟩
    · obtain rfl := Option.some.inj h
      simp only [↓Da1, ↓Da2, ↓Da3, Ua1, Ua2, Ua3, Ua4, Ua5, Ua6, Ua7, Ua8, Ua9, Ua10, c_archiver_Valid_1, B_api_Archive, B_api_File, h1, f4, h5, z_archiver_Valid, ↓reduceIte, Nat.reduceEqDiff, Nat.reduceAdd, Nat.reduceLT, Nat.reduceMul]
      rfl
    · rcases ite_inv h with ⟨h6, h⟩ | ⟨h6, h⟩
      · obtain rfl := Option.some.inj h
        simp only [↓Da1, ↓Da2, ↓Da3, Ua1, Ua2, Ua3, Ua4, Ua5, Ua6, Ua7, Ua8, Ua9, Ua10, c_archiver_Valid_1, B_api_Archive, B_api_File, h1, f4, h5, h6, z_archiver_Valid, ↓reduceIte, Nat.reduceEqDiff, Nat.reduceAdd, Nat.reduceLT, Nat.reduceMul]
        rfl
      · obtain rfl := Option.some.inj h
        simp only [↓Da1, ↓Da2, ↓Da3, Ua1, Ua2, Ua3, Ua4, Ua5, Ua6, Ua7, Ua8, Ua9, Ua10, c_archiver_Valid_1, B_api_Archive, B_api_File, h1, f4, h5, h6, ↓reduceIte, Nat.reduceEqDiff, Nat.reduceAdd, Nat.reduceLT, Nat.reduceMul]
        rfl
  · obtain ⟨o', h', rfl⟩ := Option.map_eq_some_iff.1 h
    simp only [↓Da1, ↓Da2, ↓Da3, Ua1, Ua2, Ua3, Ua4, Ua5, Ua6, Ua7, Ua8, Ua9, Ua10, c_archiver_Valid_1, B_api_Archive, B_api_File, h1, ↓reduceIte, Nat.reduceEqDiff, Nat.reduceAdd, Nat.reduceLT, Nat.reduceMul]
    have e0 := e_archiver_Valid_2 p (B0 := .box (List.map AV.p (e_api_Archive b0))) h'
    exact e0


def W_archiver_Valid_1 (x87 : List T_api_File) (x88 : Int) (b0 : T_api_Archive) (s : Int × Int) : Option (Bool) :=
  whileO (fun s => S_archiver_Valid_1 x87 x88 b0 s.1 s.2) s

theorem e_archiver_Valid_1_w {x87 : List T_api_File} {x88 : Int} {b0 : T_api_Archive} {s : Int × Int} {o : Bool} (h : W_archiver_Valid_1 x87 x88 b0 s = some o) :
    rk (tabOf p) f_archiver_Valid 0 [.bl 2, .td 1 [2], .sq (.keep [] c_archiver_Valid_2)] (X (tabOf p) (.lp 1 [1, 5, 87, 88, 89] c_archiver_Valid_1) ⟨[(1, .ptr 0 0), (5, .p (.i .i64 s.1)), (87, .p (.sl 3 (List.map e_api_File x87))), (88, .p (.i .i64 x88)), (89, .p (.i .i64 s.2))], [.box (List.map AV.p (e_api_Archive b0))]⟩) = d_archiver_Valid o := by
  have h0 : whileO (fun s => S_archiver_Valid_1 x87 x88 b0 s.1 s.2) s = some o := h
  exact while_ind (P := fun (s : Int × Int) (o : Bool) => rk (tabOf p) f_archiver_Valid 0 [.bl 2, .td 1 [2], .sq (.keep [] c_archiver_Valid_2)] (X (tabOf p) (.lp 1 [1, 5, 87, 88, 89] c_archiver_Valid_1) ⟨[(1, .ptr 0 0), (5, .p (.i .i64 s.1)), (87, .p (.sl 3 (List.map e_api_File x87))), (88, .p (.i .i64 x88)), (89, .p (.i .i64 s.2))], [.box (List.map AV.p (e_api_Archive b0))]⟩) = d_archiver_Valid o) (fun s r hs => by rw [rk_lp]; exact e_archiver_Valid_1 p hs) (fun s s1 r hs ih => by rw [rk_lp]; exact (e_archiver_Valid_1 p hs).trans ih) h0

def S_archiver_Valid_3 (b0 : T_api_Archive) : Option (Bool) :=
  if (decide (b0.Next < 1)) then
    some false
  else
    if (decide (b0.Next > 1099511627777)) then
      some false
    else
      if (decide (b0.Serial < 1)) then
        some false
      else
        if (decide (b0.Serial > 1073741825)) then
          some false
        else
          if (decide (((List.length b0.Files : Nat) : Int) > 256)) then
            some false
          else
            W_archiver_Valid_1 b0.Files ((List.length b0.Files : Nat) : Int) b0 (0, 0)

theorem e_archiver_Valid_3 {b0 : T_api_Archive} {o : Bool} (h : S_archiver_Valid_3 b0 = some o) :
    rk (tabOf p) f_archiver_Valid 0 [] (X (tabOf p) c_archiver_Valid_3 ⟨[(1, .ptr 0 0)], [.box (List.map AV.p (e_api_Archive b0))]⟩) = d_archiver_Valid o := by
  unfold S_archiver_Valid_3 at h
  rcases ite_inv h with ⟨h1, h⟩ | ⟨h1, h⟩
  · obtain rfl := Option.some.inj h
    simp only [↓Da1, ↓Da2, ↓Da3, Ua1, Ua2, Ua3, Ua4, Ua5, Ua6, Ua7, Ua8, Ua9, Ua10, c_archiver_Valid_3, B_api_Archive, B_api_File, h1, z_archiver_Valid, ↓reduceIte, Nat.reduceEqDiff, Nat.reduceAdd, Nat.reduceLT, Nat.reduceMul]
    rfl
  · rcases ite_inv h with ⟨h2, h⟩ | ⟨h2, h⟩
    · obtain rfl := Option.some.inj h
      simp only [↓Da1, ↓Da2, ↓Da3, Ua1, Ua2, Ua3, Ua4, Ua5, Ua6, Ua7, Ua8, Ua9, Ua10, c_archiver_Valid_3, B_api_Archive, B_api_File, h1, h2, z_archiver_Valid, ↓reduceIte, Nat.reduceEqDiff, Nat.reduceAdd, Nat.reduceLT, Nat.reduceMul]
      rfl
    · rcases ite_inv h with ⟨h3, h⟩ | ⟨h3, h⟩
      · obtain rfl := Option.some.inj h
        simp only [↓Da1, ↓Da2, ↓Da3, Ua1, Ua2, Ua3, Ua4, Ua5, Ua6, Ua7, Ua8, Ua9, Ua10, c_archiver_Valid_3, B_api_Archive, B_api_File, h1, h2, h3, z_archiver_Valid, ↓reduceIte, Nat.reduceEqDiff, Nat.reduceAdd, Nat.reduceLT, Nat.reduceMul]
        rfl
      · rcases ite_inv h with ⟨h4, h⟩ | ⟨h4, h⟩
        · obtain rfl := Option.some.inj h
          simp only [↓Da1, ↓Da2, ↓Da3, Ua1, Ua2, Ua3, Ua4, Ua5, Ua6, Ua7, Ua8, Ua9, Ua10, c_archiver_Valid_3, B_api_Archive, B_api_File, h1, h2, h3, h4, z_archiver_Valid, ↓reduceIte, Nat.reduceEqDiff, Nat.reduceAdd, Nat.reduceLT, Nat.reduceMul]
          rfl
        · rcases ite_inv h with ⟨h5, h⟩ | ⟨h5, h⟩
          · obtain rfl := Option.some.inj h
            simp only [↓Da1, ↓Da2, ↓Da3, Ua1, Ua2, Ua3, Ua4, Ua5, Ua6, Ua7, Ua8, Ua9, Ua10, c_archiver_Valid_3, B_api_Archive, B_api_File, h1, h2, h3, h4, h5, z_archiver_Valid, ↓reduceIte, Nat.reduceEqDiff, Nat.reduceAdd, Nat.reduceLT, Nat.reduceMul]
            rfl
          · simp only [↓Da1, ↓Da2, ↓Da3, Ua1, Ua2, Ua3, Ua4, Ua5, Ua6, Ua7, Ua8, Ua9, Ua10, c_archiver_Valid_3, B_api_Archive, B_api_File, h1, h2, h3, h4, h5, ↓reduceIte, Nat.reduceEqDiff, Nat.reduceAdd, Nat.reduceLT, Nat.reduceMul]
            have e0 := e_archiver_Valid_1_w p h
            exact e0


def S_archiver_Valid_0 (x3 : Int) (b0 : T_api_Archive) (x4 : Int) : Option (((Int) ⊕ (Bool))) :=
  if (decide (x4 < x3)) then
    Option.bind (idx b0.Bounds (IntKind.wrap .i64 (x4 - 1))) fun y2 =>
    Option.bind (idx b0.Bounds x4) fun y5 =>
    if (decide (y2 ≥ y5)) then
      some (.inr false)
    else
      some (.inl (IntKind.wrap .i64 (x4 + 1)))
  else
    Option.map (fun o => .inr o) (S_archiver_Valid_3 b0)

theorem e_archiver_Valid_0 {x3 : Int} {b0 : T_api_Archive} {x4 : Int} {o : ((Int) ⊕ (Bool))} (h : S_archiver_Valid_0 x3 b0 x4 = some o) :
    rk (tabOf p) f_archiver_Valid 0 [.lo 1 [1, 3, 4] c_archiver_Valid_0, .bl 0, .sq (.keep [1] c_archiver_Valid_3)] (X (tabOf p) c_archiver_Valid_0 ⟨[(1, .ptr 0 0), (3, .p (.i .i64 x3)), (4, .p (.i .i64 x4))], [.box (List.map AV.p (e_api_Archive b0))]⟩) = (d_archiver_Valid_0 p x3 b0) o := by
  unfold S_archiver_Valid_0 at h
  rcases ite_inv h with ⟨h1, h⟩ | ⟨h1, h⟩
  · obtain ⟨y2, h3, h⟩ := Option.bind_eq_some_iff.1 h
    have f4 := rowAt_idx (r := (r_i .i64)) h3
    try simp only [Nf] at f4
    obtain ⟨y5, h6, h⟩ := Option.bind_eq_some_iff.1 h
    have f7 := rowAt_idx (r := (r_i .i64)) h6
    try simp only [Nf] at f7
    rcases ite_inv h with ⟨h8, h⟩ | ⟨h8, h⟩
    · obtain rfl := Option.some.inj h
      simp only [↓Da1, ↓Da2, ↓Da3, Ua1, Ua2, Ua3, Ua4, Ua5, Ua6, Ua7, Ua8, Ua9, Ua10, c_archiver_Valid_0, B_api_Archive, B_api_File, h1, f4, f7, h8, z_archiver_Valid, ↓reduceIte, Nat.reduceEqDiff, Nat.reduceAdd, Nat.reduceLT, Nat.reduceMul]
      rfl
    · obtain rfl := Option.some.inj h
      simp only [↓Da1, ↓Da2, ↓Da3, Ua1, Ua2, Ua3, Ua4, Ua5, Ua6, Ua7, Ua8, Ua9, Ua10, c_archiver_Valid_0, B_api_Archive, B_api_File, h1, f4, f7, h8, ↓reduceIte, Nat.reduceEqDiff, Nat.reduceAdd, Nat.reduceLT, Nat.reduceMul]
      rfl
  · obtain ⟨o', h', rfl⟩ := Option.map_eq_some_iff.1 h
    simp only [↓Da1, ↓Da2, ↓Da3, Ua1, Ua2, Ua3, Ua4, Ua5, Ua6, Ua7, Ua8, Ua9, Ua10, c_archiver_Valid_0, B_api_Archive, B_api_File, h1, ↓reduceIte, Nat.reduceEqDiff, Nat.reduceAdd, Nat.reduceLT, Nat.reduceMul]
    have e0 := e_archiver_Valid_3 p h'
    exact e0


def W_archiver_Valid_0 (x3 : Int) (b0 : T_api_Archive) (s : Int) : Option (Bool) :=
  whileO (fun s => S_archiver_Valid_0 x3 b0 s) s

theorem e_archiver_Valid_0_w {x3 : Int} {b0 : T_api_Archive} {s : Int} {o : Bool} (h : W_archiver_Valid_0 x3 b0 s = some o) :
    rk (tabOf p) f_archiver_Valid 0 [.bl 0, .sq (.keep [1] c_archiver_Valid_3)] (X (tabOf p) (.lp 1 [1, 3, 4] c_archiver_Valid_0) ⟨[(1, .ptr 0 0), (3, .p (.i .i64 x3)), (4, .p (.i .i64 s))], [.box (List.map AV.p (e_api_Archive b0))]⟩) = d_archiver_Valid o := by
  have h0 : whileO (fun s => S_archiver_Valid_0 x3 b0 s) s = some o := h
  exact while_ind (P := fun (s : Int) (o : Bool) => rk (tabOf p) f_archiver_Valid 0 [.bl 0, .sq (.keep [1] c_archiver_Valid_3)] (X (tabOf p) (.lp 1 [1, 3, 4] c_archiver_Valid_0) ⟨[(1, .ptr 0 0), (3, .p (.i .i64 x3)), (4, .p (.i .i64 s))], [.box (List.map AV.p (e_api_Archive b0))]⟩) = d_archiver_Valid o) (fun s r hs => by rw [rk_lp]; exact e_archiver_Valid_0 p hs) (fun s s1 r hs ih => by rw [rk_lp]; exact (e_archiver_Valid_0 p hs).trans ih) h0

def S_archiver_Valid (x0 : T_api_Archive) : Option (Bool) :=
  if (decide (x0.Pages < 1)) then
    some false
  else
    if (decide (x0.Pages > 64)) then
      some false
    else
      if (decide (((List.length x0.Bounds : Nat) : Int) < 1)) then
        some false
      else
        if (decide (((List.length x0.Bounds : Nat) : Int) > 16)) then
          some false
        else
          Option.bind (idx x0.Bounds 0) fun y5 =>
          if ((y5 : Int) != 0) then
            some false
          else
            Option.bind (idx x0.Bounds (IntKind.wrap .i64 (((List.length x0.Bounds : Nat) : Int) - 1))) fun y9 =>
            if (decide (y9 ≥ x0.Pages)) then
              some false
            else
              W_archiver_Valid_0 ((List.length x0.Bounds : Nat) : Int) x0 1

theorem e_archiver_Valid_top {x0 : T_api_Archive} {o : Bool} (h : S_archiver_Valid x0 = some o) :
    rk (tabOf p) f_archiver_Valid 0 [] (X (tabOf p) c_archiver_Valid ⟨[(0, .data (e_api_Archive x0))], []⟩) = d_archiver_Valid o := by
  unfold S_archiver_Valid at h
  rcases ite_inv h with ⟨h1, h⟩ | ⟨h1, h⟩
  · obtain rfl := Option.some.inj h
    simp only [↓Da1, ↓Da2, ↓Da3, Ua1, Ua2, Ua3, Ua4, Ua5, Ua6, Ua7, Ua8, Ua9, Ua10, c_archiver_Valid, B_api_Archive, B_api_File, h1, z_archiver_Valid, ↓reduceIte, Nat.reduceEqDiff, Nat.reduceAdd, Nat.reduceLT, Nat.reduceMul]
    rfl
  · rcases ite_inv h with ⟨h2, h⟩ | ⟨h2, h⟩
    · obtain rfl := Option.some.inj h
      simp only [↓Da1, ↓Da2, ↓Da3, Ua1, Ua2, Ua3, Ua4, Ua5, Ua6, Ua7, Ua8, Ua9, Ua10, c_archiver_Valid, B_api_Archive, B_api_File, h1, h2, z_archiver_Valid, ↓reduceIte, Nat.reduceEqDiff, Nat.reduceAdd, Nat.reduceLT, Nat.reduceMul]
      rfl
    · rcases ite_inv h with ⟨h3, h⟩ | ⟨h3, h⟩
      · obtain rfl := Option.some.inj h
        simp only [↓Da1, ↓Da2, ↓Da3, Ua1, Ua2, Ua3, Ua4, Ua5, Ua6, Ua7, Ua8, Ua9, Ua10, c_archiver_Valid, B_api_Archive, B_api_File, h1, h2, h3, z_archiver_Valid, ↓reduceIte, Nat.reduceEqDiff, Nat.reduceAdd, Nat.reduceLT, Nat.reduceMul]
        rfl
      · rcases ite_inv h with ⟨h4, h⟩ | ⟨h4, h⟩
        · obtain rfl := Option.some.inj h
          simp only [↓Da1, ↓Da2, ↓Da3, Ua1, Ua2, Ua3, Ua4, Ua5, Ua6, Ua7, Ua8, Ua9, Ua10, c_archiver_Valid, B_api_Archive, B_api_File, h1, h2, h3, h4, z_archiver_Valid, ↓reduceIte, Nat.reduceEqDiff, Nat.reduceAdd, Nat.reduceLT, Nat.reduceMul]
          rfl
        · obtain ⟨y5, h6, h⟩ := Option.bind_eq_some_iff.1 h
          have f7 := rowAt_idx (r := (r_i .i64)) h6
          try simp only [Nf] at f7
          rcases ite_inv h with ⟨h8, h⟩ | ⟨h8, h⟩
          · obtain rfl := Option.some.inj h
            simp only [↓Da1, ↓Da2, ↓Da3, Ua1, Ua2, Ua3, Ua4, Ua5, Ua6, Ua7, Ua8, Ua9, Ua10, c_archiver_Valid, B_api_Archive, B_api_File, h1, h2, h3, h4, f7, h8, z_archiver_Valid, ↓reduceIte, Nat.reduceEqDiff, Nat.reduceAdd, Nat.reduceLT, Nat.reduceMul]
            rfl
          · obtain ⟨y9, h10, h⟩ := Option.bind_eq_some_iff.1 h
            have f11 := rowAt_idx (r := (r_i .i64)) h10
            try simp only [Nf] at f11
            rcases ite_inv h with ⟨h12, h⟩ | ⟨h12, h⟩
            · obtain rfl := Option.some.inj h
              simp only [↓Da1, ↓Da2, ↓Da3, Ua1, Ua2, Ua3, Ua4, Ua5, Ua6, Ua7, Ua8, Ua9, Ua10, c_archiver_Valid, B_api_Archive, B_api_File, h1, h2, h3, h4, f7, h8, f11, h12, z_archiver_Valid, ↓reduceIte, Nat.reduceEqDiff, Nat.reduceAdd, Nat.reduceLT, Nat.reduceMul]
              rfl
            · simp only [↓Da1, ↓Da2, ↓Da3, Ua1, Ua2, Ua3, Ua4, Ua5, Ua6, Ua7, Ua8, Ua9, Ua10, c_archiver_Valid, B_api_Archive, B_api_File, h1, h2, h3, h4, f7, h8, f11, h12, ↓reduceIte, Nat.reduceEqDiff, Nat.reduceAdd, Nat.reduceLT, Nat.reduceMul]
              have e0 := e_archiver_Valid_0_w p h
              exact e0


theorem e_archiver_Valid {x0 : T_api_Archive} {o : Bool} (h : S_archiver_Valid x0 = some o) : AF (tabOf p) i_archiver_Valid [.data (e_api_Archive x0)] [] = d_archiver_Valid o :=
  (AF_rk (tabOf p) (t_archiver_Valid p) rfl).trans (e_archiver_Valid_top p h)

/-! (*pagemend/pagemenddraw.Codes).Next -/

def d_draw_Codes_Next (r : Int × T_pagemenddraw_Codes) : Option Res := some (.p (.i .i64 r.1), [.box (List.map AV.p (e_pagemenddraw_Codes r.2))])

def S_draw_Codes_Next_R (rec : T_pagemenddraw_Codes → Int → Option (Int × T_pagemenddraw_Codes)) (b0 : T_pagemenddraw_Codes) (x1 : Int) : Option (Int × T_pagemenddraw_Codes) :=
  if (decide (b0.at_ ≥ ((List.length b0.l_ : Nat) : Int))) then
    some (0, b0)
  else
    if (decide (x1 < 1)) then
      some (0, b0)
    else
      Option.bind (idx b0.l_ b0.at_) fun y3 =>
      if (decide (x1 > 256)) then
        Option.bind (rec (⟨b0.l_, (IntKind.wrap .i64 (b0.at_ + 1))⟩ : T_pagemenddraw_Codes) 256) fun r7 =>
        Option.bind (remS (IntKind.wrap .i64 ((IntKind.wrap .i64 (256 * (IntKind.wrap .i64 y3))) + r7.1)) x1) fun q10 =>
        some (q10, r7.2)
      else
        Option.bind (remS (IntKind.wrap .i64 y3) x1) fun q12 =>
        some (q12, (⟨b0.l_, (IntKind.wrap .i64 (b0.at_ + 1))⟩ : T_pagemenddraw_Codes))

theorem e_draw_Codes_Next_top {rec : T_pagemenddraw_Codes → Int → Option (Int × T_pagemenddraw_Codes)} (hrec : ∀ {b0 : T_pagemenddraw_Codes} {x1 : Int} {o : Int × T_pagemenddraw_Codes}, rec b0 x1 = some o → AF (tabOf p) i_draw_Codes_Next [.ptr 0 0, .p (.i .i64 x1)] [.box (List.map AV.p (e_pagemenddraw_Codes b0))] = d_draw_Codes_Next o) {b0 : T_pagemenddraw_Codes} {x1 : Int} {o : Int × T_pagemenddraw_Codes} (h : S_draw_Codes_Next_R rec b0 x1 = some o) :
    rk (tabOf p) f_draw_Codes_Next 1 [] (X (tabOf p) c_draw_Codes_Next ⟨[(0, .ptr 0 0), (1, .p (.i .i64 x1))], [.box (List.map AV.p (e_pagemenddraw_Codes b0))]⟩) = d_draw_Codes_Next o := by
  unfold S_draw_Codes_Next_R at h
  rcases ite_inv h with ⟨h1, h⟩ | ⟨h1, h⟩
  · obtain rfl := Option.some.inj h
    simp only [↓Da1, ↓Da2, ↓Da3, Ua1, Ua2, Ua3, Ua4, Ua5, Ua6, Ua7, Ua8, Ua9, Ua10, c_draw_Codes_Next, B_pagemenddraw_Codes, h1, z_draw_Codes_Next, ↓reduceIte, Nat.reduceEqDiff, Nat.reduceAdd, Nat.reduceLT, Nat.reduceMul]
    rfl
  · rcases ite_inv h with ⟨h2, h⟩ | ⟨h2, h⟩
    · obtain rfl := Option.some.inj h
      simp only [↓Da1, ↓Da2, ↓Da3, Ua1, Ua2, Ua3, Ua4, Ua5, Ua6, Ua7, Ua8, Ua9, Ua10, c_draw_Codes_Next, B_pagemenddraw_Codes, h1, h2, z_draw_Codes_Next, ↓reduceIte, Nat.reduceEqDiff, Nat.reduceAdd, Nat.reduceLT, Nat.reduceMul]
      rfl
    · obtain ⟨y3, h4, h⟩ := Option.bind_eq_some_iff.1 h
      have f5 := rowAt_idx (r := (r_i .u8)) h4
      try simp only [Nf] at f5
      rcases ite_inv h with ⟨h6, h⟩ | ⟨h6, h⟩
      · obtain ⟨r7, h8, h⟩ := Option.bind_eq_some_iff.1 h
        have f9 : ∀ ws new s, (getB ws 0).run s = some (.box (List.map AV.p (e_pagemenddraw_Codes (⟨b0.l_, (IntKind.wrap .i64 (b0.at_ + 1))⟩ : T_pagemenddraw_Codes)))) → (callR2 (AF (tabOf p)) i_draw_Codes_Next ([.ptr 0 0, .p (.i .i64 256)], ws) 0 new).run s = some ⟨.p (.i .i64 r7.1), ws ++ [(0, .box (List.map AV.p (e_pagemenddraw_Codes r7.2)))]⟩ := callR2_ptr (args := [.p (.i .i64 256)]) rfl (all_plain_mapp _) (hrec h8) rfl (all_plain_mapp _)
        try simp only [Nf] at f9
        obtain ⟨q10, h11, h⟩ := Option.bind_eq_some_iff.1 h
        obtain rfl := Option.some.inj h
        simp only [↓Da1, ↓Da2, ↓Da3, Ua1, Ua2, Ua3, Ua4, Ua5, Ua6, Ua7, Ua8, Ua9, Ua10, c_draw_Codes_Next, B_pagemenddraw_Codes, h1, h2, f5, h6, f9, h11, z_draw_Codes_Next, ↓reduceIte, Nat.reduceEqDiff, Nat.reduceAdd, Nat.reduceLT, Nat.reduceMul]
        rfl
      · obtain ⟨q12, h13, h⟩ := Option.bind_eq_some_iff.1 h
        obtain rfl := Option.some.inj h
        simp only [↓Da1, ↓Da2, ↓Da3, Ua1, Ua2, Ua3, Ua4, Ua5, Ua6, Ua7, Ua8, Ua9, Ua10, c_draw_Codes_Next, B_pagemenddraw_Codes, h1, h2, f5, h6, h13, z_draw_Codes_Next, ↓reduceIte, Nat.reduceEqDiff, Nat.reduceAdd, Nat.reduceLT, Nat.reduceMul]
        rfl


def S_draw_Codes_Next_N : Nat → T_pagemenddraw_Codes → Int → Option (Int × T_pagemenddraw_Codes)
  | 0 => fun _ _ => none
  | n + 1 => S_draw_Codes_Next_R (S_draw_Codes_Next_N n)

def S_draw_Codes_Next : T_pagemenddraw_Codes → Int → Option (Int × T_pagemenddraw_Codes) := S_draw_Codes_Next_N 12

theorem e_draw_Codes_Next_N : ∀ n, ∀ {b0 : T_pagemenddraw_Codes} {x1 : Int} {o : Int × T_pagemenddraw_Codes}, S_draw_Codes_Next_N n b0 x1 = some o → AF (tabOf p) i_draw_Codes_Next [.ptr 0 0, .p (.i .i64 x1)] [.box (List.map AV.p (e_pagemenddraw_Codes b0))] = d_draw_Codes_Next o
  | 0 => fun h => by cases h
  | n + 1 => fun h => (AF_rk (tabOf p) (t_draw_Codes_Next p) rfl).trans (e_draw_Codes_Next_top p (e_draw_Codes_Next_N n) h)

theorem e_draw_Codes_Next {b0 : T_pagemenddraw_Codes} {x1 : Int} {o : Int × T_pagemenddraw_Codes} (h : S_draw_Codes_Next b0 x1 = some o) : AF (tabOf p) i_draw_Codes_Next [.ptr 0 0, .p (.i .i64 x1)] [.box (List.map AV.p (e_pagemenddraw_Codes b0))] = d_draw_Codes_Next o := e_draw_Codes_Next_N p 12 h

/-! pagemend/archiver.part -/

def d_archiver_part (r : Int × Int) : Option Res := some (.tup [.p (.i .i64 r.1), .p (.i .i64 r.2)], [])

def S_archiver_part (x0 : T_api_Archive) (x1 : Int) : Option (Int × Int) :=
  if (decide ((IntKind.wrap .i64 (x1 + 1)) < ((List.length x0.Bounds : Nat) : Int))) then
    Option.bind (idx x0.Bounds x1) fun y2 =>
    Option.bind (idx x0.Bounds (IntKind.wrap .i64 (x1 + 1))) fun y5 =>
    some (y2, (IntKind.wrap .i64 (y5 - 1)))
  else
    Option.bind (idx x0.Bounds x1) fun y8 =>
    some (y8, (IntKind.wrap .i64 (x0.Pages - 1)))

theorem e_archiver_part_top {x0 : T_api_Archive} {x1 : Int} {o : Int × Int} (h : S_archiver_part x0 x1 = some o) :
    rk (tabOf p) f_archiver_part 0 [] (X (tabOf p) c_archiver_part ⟨[(0, .data (e_api_Archive x0)), (1, .p (.i .i64 x1))], []⟩) = d_archiver_part o := by
  unfold S_archiver_part at h
  rcases ite_inv h with ⟨h1, h⟩ | ⟨h1, h⟩
  · obtain ⟨y2, h3, h⟩ := Option.bind_eq_some_iff.1 h
    have f4 := rowAt_idx (r := (r_i .i64)) h3
    try simp only [Nf] at f4
    obtain ⟨y5, h6, h⟩ := Option.bind_eq_some_iff.1 h
    have f7 := rowAt_idx (r := (r_i .i64)) h6
    try simp only [Nf] at f7
    obtain rfl := Option.some.inj h
    simp only [↓Da1, ↓Da2, ↓Da3, Ua1, Ua2, Ua3, Ua4, Ua5, Ua6, Ua7, Ua8, Ua9, Ua10, c_archiver_part, B_api_Archive, B_api_File, h1, f4, f7, z_archiver_part, ↓reduceIte, Nat.reduceEqDiff, Nat.reduceAdd, Nat.reduceLT, Nat.reduceMul]
    rfl
  · obtain ⟨y8, h9, h⟩ := Option.bind_eq_some_iff.1 h
    have f10 := rowAt_idx (r := (r_i .i64)) h9
    try simp only [Nf] at f10
    obtain rfl := Option.some.inj h
    simp only [↓Da1, ↓Da2, ↓Da3, Ua1, Ua2, Ua3, Ua4, Ua5, Ua6, Ua7, Ua8, Ua9, Ua10, c_archiver_part, B_api_Archive, B_api_File, h1, f10, z_archiver_part, ↓reduceIte, Nat.reduceEqDiff, Nat.reduceAdd, Nat.reduceLT, Nat.reduceMul]
    rfl


theorem e_archiver_part {x0 : T_api_Archive} {x1 : Int} {o : Int × Int} (h : S_archiver_part x0 x1 = some o) : AF (tabOf p) i_archiver_part [.data (e_api_Archive x0), .p (.i .i64 x1)] [] = d_archiver_part o :=
  (AF_rk (tabOf p) (t_archiver_part p) rfl).trans (e_archiver_part_top p h)

/-! slices.isNaN[int] -/

def d_slices_isNaN_int (r : Bool) : Option Res := some (.p (.b r), [])

def S_slices_isNaN_int (x0 : Int) : Option (Bool) :=
  some ((x0 : Int) != x0)

theorem e_slices_isNaN_int_top {x0 : Int} {o : Bool} (h : S_slices_isNaN_int x0 = some o) :
    rk (tabOf p) f_slices_isNaN_int 0 [] (X (tabOf p) c_slices_isNaN_int ⟨[(0, .p (.i .i64 x0))], []⟩) = d_slices_isNaN_int o := by
  unfold S_slices_isNaN_int at h
  obtain rfl := Option.some.inj h
  simp only [↓Da1, ↓Da2, ↓Da3, Ua1, Ua2, Ua3, Ua4, Ua5, Ua6, Ua7, Ua8, Ua9, Ua10, c_slices_isNaN_int, z_slices_isNaN_int, ↓reduceIte, Nat.reduceEqDiff, Nat.reduceAdd, Nat.reduceLT, Nat.reduceMul]
  rfl


theorem e_slices_isNaN_int {x0 : Int} {o : Bool} (h : S_slices_isNaN_int x0 = some o) : AF (tabOf p) i_slices_isNaN_int [.p (.i .i64 x0)] [] = d_slices_isNaN_int o :=
  (AF_rk (tabOf p) (t_slices_isNaN_int p) rfl).trans (e_slices_isNaN_int_top p h)

/-! cmp.isNaN[int] -/

def d_cmp_isNaN_int (r : Bool) : Option Res := some (.p (.b r), [])

def S_cmp_isNaN_int (x0 : Int) : Option (Bool) :=
  some ((x0 : Int) != x0)

theorem e_cmp_isNaN_int_top {x0 : Int} {o : Bool} (h : S_cmp_isNaN_int x0 = some o) :
    rk (tabOf p) f_cmp_isNaN_int 0 [] (X (tabOf p) c_cmp_isNaN_int ⟨[(0, .p (.i .i64 x0))], []⟩) = d_cmp_isNaN_int o := by
  unfold S_cmp_isNaN_int at h
  obtain rfl := Option.some.inj h
  simp only [↓Da1, ↓Da2, ↓Da3, Ua1, Ua2, Ua3, Ua4, Ua5, Ua6, Ua7, Ua8, Ua9, Ua10, c_cmp_isNaN_int, z_cmp_isNaN_int, ↓reduceIte, Nat.reduceEqDiff, Nat.reduceAdd, Nat.reduceLT, Nat.reduceMul]
  rfl


theorem e_cmp_isNaN_int {x0 : Int} {o : Bool} (h : S_cmp_isNaN_int x0 = some o) : AF (tabOf p) i_cmp_isNaN_int [.p (.i .i64 x0)] [] = d_cmp_isNaN_int o :=
  (AF_rk (tabOf p) (t_cmp_isNaN_int p) rfl).trans (e_cmp_isNaN_int_top p h)

/-! pagemend/archiver.New -/

def d_archiver_New (r : T_api_Archive × Int) : Option Res := some (.tup [.data (e_api_Archive r.1), .p (.i .i64 r.2)], [])

def S_archiver_New (x0 : Int) (x1 : List Int) : Option (T_api_Archive × Int) :=
  Option.bind (S_slices_Clone_int_int x1) fun r1 =>
  Option.bind (S_archiver_Valid (⟨r1, x0, ([] : List T_api_File), 1, 1⟩ : T_api_Archive)) fun r4 =>
  if r4 then
    some ((⟨r1, x0, ([] : List T_api_File), 1, 1⟩ : T_api_Archive), 0)
  else
    some ((⟨([] : List Int), 0, ([] : List T_api_File), 0, 0⟩ : T_api_Archive), 54)

theorem e_archiver_New_top {x0 : Int} {x1 : List Int} {o : T_api_Archive × Int} (h : S_archiver_New x0 x1 = some o) :
    rk (tabOf p) f_archiver_New 0 [] (X (tabOf p) c_archiver_New ⟨[(0, .p (.i .i64 x0)), (1, .p (.sl 1 (List.map (r_i .i64) x1)))], []⟩) = d_archiver_New o := by
  unfold S_archiver_New at h
  obtain ⟨r1, h2, h⟩ := Option.bind_eq_some_iff.1 h
  have f3 : ∀ ws new s, (callR2 (AF (tabOf p)) i_slices_Clone_int_int ([.p (.sl 1 (List.map (r_i .i64) x1))], ws) 0 new).run s = some ⟨.p (.sl 1 (List.map (r_i .i64) r1)), ws⟩ := callR2_plain rfl (e_slices_Clone_int_int p h2) rfl
  try simp only [Nf] at f3
  obtain ⟨r4, h5, h⟩ := Option.bind_eq_some_iff.1 h
  have f6 : ∀ ws new s, (callR2 (AF (tabOf p)) i_archiver_Valid ([.data (e_api_Archive (⟨r1, x0, ([] : List T_api_File), 1, 1⟩ : T_api_Archive))], ws) 0 new).run s = some ⟨.p (.b r4), ws⟩ := callR2_plain rfl (e_archiver_Valid p h5) rfl
  try simp only [Nf] at f6
  rcases ite_inv h with ⟨h7, h⟩ | ⟨h7, h⟩
  · obtain rfl := Option.some.inj h
    simp only [↓Da1, ↓Da2, ↓Da3, Ua1, Ua2, Ua3, Ua4, Ua5, Ua6, Ua7, Ua8, Ua9, Ua10, c_archiver_New, B_api_Archive, B_api_File, f3, f6, h7, z_archiver_New, ↓reduceIte, Nat.reduceEqDiff, Nat.reduceAdd, Nat.reduceLT, Nat.reduceMul]
    rfl
  · obtain rfl := Option.some.inj h
    simp only [↓Da1, ↓Da2, ↓Da3, Ua1, Ua2, Ua3, Ua4, Ua5, Ua6, Ua7, Ua8, Ua9, Ua10, c_archiver_New, B_api_Archive, B_api_File, f3, f6, h7, z_archiver_New, ↓reduceIte, Nat.reduceEqDiff, Nat.reduceAdd, Nat.reduceLT, Nat.reduceMul]
    rfl


theorem e_archiver_New {x0 : Int} {x1 : List Int} {o : T_api_Archive × Int} (h : S_archiver_New x0 x1 = some o) : AF (tabOf p) i_archiver_New [.p (.i .i64 x0), .p (.sl 1 (List.map (r_i .i64) x1))] [] = d_archiver_New o :=
  (AF_rk (tabOf p) (t_archiver_New p) rfl).trans (e_archiver_New_top p h)

/-! pagemend/pagemendmake.Bounds -/

def d_make_Bounds (r : (List Int) × T_pagemenddraw_Codes) : Option Res := some (.p (.sl 1 (List.map (r_i .i64) r.1)), [.box (List.map AV.p (e_pagemenddraw_Codes r.2))])

def d_make_Bounds_1 (x1 : Int) (w1 : Bool) (o : (Int × T_pagemenddraw_Codes × (List Int)) ⊕ ((List Int) × T_pagemenddraw_Codes)) : Option Res := match o with
  | .inl s => rk (tabOf p) f_make_Bounds 1 [.bl 0, .sq (.keep [5] c_make_Bounds_2)] (X (tabOf p) (.lp 2 [0, 1, 5, 6] c_make_Bounds_1) ⟨[(0, .ptr 0 0), (1, .p (.i .i64 x1)), (5, .slr 1 0 (List.length s.2.2)), (6, .p (.i .i64 s.1))], [.box (List.map AV.p (e_pagemenddraw_Codes s.2.1)), .arr w1 1 (List.map (r_i .i64) s.2.2)]⟩)
  | .inr o => d_make_Bounds o

def S_make_Bounds_0 (x1 : Int) (x6 : Int) (b0 : T_pagemenddraw_Codes) (l1 : List Int) : Option (((Int × T_pagemenddraw_Codes × (List Int)) ⊕ ((List Int) × T_pagemenddraw_Codes))) :=
  some (.inl ((IntKind.wrap .i64 (x6 + 1)), b0, l1))

theorem e_make_Bounds_0 {x1 : Int} {x6 : Int} {b0 : T_pagemenddraw_Codes} {l1 : List Int} {w1 : Bool} {o : ((Int × T_pagemenddraw_Codes × (List Int)) ⊕ ((List Int) × T_pagemenddraw_Codes))} (h : S_make_Bounds_0 x1 x6 b0 l1 = some o) :
    rk (tabOf p) f_make_Bounds 1 [.lo 2 [0, 1, 5, 6] c_make_Bounds_1, .bl 0, .sq (.keep [5] c_make_Bounds_2)] (X (tabOf p) c_make_Bounds_0 ⟨[(0, .ptr 0 0), (1, .p (.i .i64 x1)), (5, .slr 1 0 (List.length l1)), (6, .p (.i .i64 x6))], [.box (List.map AV.p (e_pagemenddraw_Codes b0)), .arr w1 1 (List.map (r_i .i64) l1)]⟩) = (d_make_Bounds_1 p x1 w1) o := by
  unfold S_make_Bounds_0 at h
  obtain rfl := Option.some.inj h
  simp only [↓Da1, ↓Da2, ↓Da3, Ua1, Ua2, Ua3, Ua4, Ua5, Ua6, Ua7, Ua8, Ua9, Ua10, c_make_Bounds_0, ↓reduceIte, Nat.reduceEqDiff, Nat.reduceAdd, Nat.reduceLT, Nat.reduceMul]
  rfl


def S_make_Bounds_2 (b0 : T_pagemenddraw_Codes) (l1 : List Int) : Option ((List Int) × T_pagemenddraw_Codes) :=
  some (l1, b0)

theorem e_make_Bounds_2 {b0 : T_pagemenddraw_Codes} {l1 : List Int} {w1 : Bool} {o : (List Int) × T_pagemenddraw_Codes} (h : S_make_Bounds_2 b0 l1 = some o) :
    rk (tabOf p) f_make_Bounds 1 [] (X (tabOf p) c_make_Bounds_2 ⟨[(5, .slr 1 0 (List.length l1))], [.box (List.map AV.p (e_pagemenddraw_Codes b0)), .arr w1 1 (List.map (r_i .i64) l1)]⟩) = d_make_Bounds o := by
  unfold S_make_Bounds_2 at h
  obtain rfl := Option.some.inj h
  simp only [↓Da1, ↓Da2, ↓Da3, Ua1, Ua2, Ua3, Ua4, Ua5, Ua6, Ua7, Ua8, Ua9, Ua10, c_make_Bounds_2, z_make_Bounds, ↓reduceIte, Nat.reduceEqDiff, Nat.reduceAdd, Nat.reduceLT, Nat.reduceMul]
  rfl


def S_make_Bounds_1 (x1 : Int) (x6 : Int) (b0 : T_pagemenddraw_Codes) (l1 : List Int) : Option (((Int × T_pagemenddraw_Codes × (List Int)) ⊕ ((List Int) × T_pagemenddraw_Codes))) :=
  if (decide (x6 < x1)) then
    Option.bind (S_draw_Codes_Next b0 3) fun r2 =>
    if ((r2.1 : Int) == 0) then
      if (decide ((((List.length l1) : Nat) : Int) < 16)) then
        Option.bind (appS 8 l1 ([x6] : List Int)) fun m7 =>
        S_make_Bounds_0 x1 x6 r2.2 m7
      else
        S_make_Bounds_0 x1 x6 r2.2 l1
    else
      S_make_Bounds_0 x1 x6 r2.2 l1
  else
    Option.map (fun o => .inr o) (S_make_Bounds_2 b0 l1)

theorem e_make_Bounds_1 {x1 : Int} {x6 : Int} {b0 : T_pagemenddraw_Codes} {l1 : List Int} {w1 : Bool} {o : ((Int × T_pagemenddraw_Codes × (List Int)) ⊕ ((List Int) × T_pagemenddraw_Codes))} (h : S_make_Bounds_1 x1 x6 b0 l1 = some o) :
    rk (tabOf p) f_make_Bounds 1 [.lo 2 [0, 1, 5, 6] c_make_Bounds_1, .bl 0, .sq (.keep [5] c_make_Bounds_2)] (X (tabOf p) c_make_Bounds_1 ⟨[(0, .ptr 0 0), (1, .p (.i .i64 x1)), (5, .slr 1 0 (List.length l1)), (6, .p (.i .i64 x6))], [.box (List.map AV.p (e_pagemenddraw_Codes b0)), .arr w1 1 (List.map (r_i .i64) l1)]⟩) = (d_make_Bounds_1 p x1 w1) o := by
  unfold S_make_Bounds_1 at h
  rcases ite_inv h with ⟨h1, h⟩ | ⟨h1, h⟩
  · obtain ⟨r2, h3, h⟩ := Option.bind_eq_some_iff.1 h
    have f4 : ∀ ws new s, (getB ws 0).run s = some (.box (List.map AV.p (e_pagemenddraw_Codes b0))) → (callR2 (AF (tabOf p)) i_draw_Codes_Next ([.ptr 0 0, .p (.i .i64 3)], ws) 0 new).run s = some ⟨.p (.i .i64 r2.1), ws ++ [(0, .box (List.map AV.p (e_pagemenddraw_Codes r2.2)))]⟩ := callR2_ptr (args := [.p (.i .i64 3)]) rfl (all_plain_mapp _) (e_draw_Codes_Next p h3) rfl (all_plain_mapp _)
    try simp only [Nf] at f4
    rcases ite_inv h with ⟨h5, h⟩ | ⟨h5, h⟩
    · rcases ite_inv h with ⟨h6, h⟩ | ⟨h6, h⟩
      · obtain ⟨m7, h8, h⟩ := Option.bind_eq_some_iff.1 h
        have f9 : ∀ s : St, s.sto[1]? = some (.arr w1 1 (List.map (r_i .i64) l1)) → (rowsOf 1 (.p (.sl 1 (List.map (r_i .i64) ([x6] : List Int))))).run s = some (List.map (r_i .i64) ([x6] : List Int)) → (appR 1 8 (.slr 1 0 (List.length l1)) (.p (.sl 1 (List.map (r_i .i64) ([x6] : List Int))))).run s = some ⟨.slr 1 0 (List.length m7), [(1, .arr w1 1 (List.map (r_i .i64) m7))]⟩ := by
          intro s e1 e2; have e3 := appR_ok h8 e1 e2; try simp only [List.length_cons, List.length_nil, Nat.zero_add] at e3
          exact e3
        try simp only [Nf] at f9
        simp only [↓Da1, ↓Da2, ↓Da3, Ua1, Ua2, Ua3, Ua4, Ua5, Ua6, Ua7, Ua8, Ua9, Ua10, c_make_Bounds_1, B_pagemenddraw_Codes, h1, f4, h5, h6, f9, ↓reduceIte, Nat.reduceEqDiff, Nat.reduceAdd, Nat.reduceLT, Nat.reduceMul]
        have e0 := e_make_Bounds_0 p (w1 := w1) h
        exact e0
      · simp only [↓Da1, ↓Da2, ↓Da3, Ua1, Ua2, Ua3, Ua4, Ua5, Ua6, Ua7, Ua8, Ua9, Ua10, c_make_Bounds_1, B_pagemenddraw_Codes, h1, f4, h5, h6, ↓reduceIte, Nat.reduceEqDiff, Nat.reduceAdd, Nat.reduceLT, Nat.reduceMul]
        have e0 := e_make_Bounds_0 p (w1 := w1) h
        exact e0
    · simp only [↓Da1, ↓Da2, ↓Da3, Ua1, Ua2, Ua3, Ua4, Ua5, Ua6, Ua7, Ua8, Ua9, Ua10, c_make_Bounds_1, B_pagemenddraw_Codes, h1, f4, h5, ↓reduceIte, Nat.reduceEqDiff, Nat.reduceAdd, Nat.reduceLT, Nat.reduceMul]
      have e0 := e_make_Bounds_0 p (w1 := w1) h
      exact e0
  · obtain ⟨o', h', rfl⟩ := Option.map_eq_some_iff.1 h
    simp only [↓Da1, ↓Da2, ↓Da3, Ua1, Ua2, Ua3, Ua4, Ua5, Ua6, Ua7, Ua8, Ua9, Ua10, c_make_Bounds_1, B_pagemenddraw_Codes, h1, ↓reduceIte, Nat.reduceEqDiff, Nat.reduceAdd, Nat.reduceLT, Nat.reduceMul]
    have e0 := e_make_Bounds_2 p (w1 := w1) h'
    exact e0


def W_make_Bounds_1 (x1 : Int) (s : Int × T_pagemenddraw_Codes × (List Int)) : Option ((List Int) × T_pagemenddraw_Codes) :=
  whileO (fun s => S_make_Bounds_1 x1 s.1 s.2.1 s.2.2) s

theorem e_make_Bounds_1_w {x1 : Int} {w1 : Bool} {s : Int × T_pagemenddraw_Codes × (List Int)} {o : (List Int) × T_pagemenddraw_Codes} (h : W_make_Bounds_1 x1 s = some o) :
    rk (tabOf p) f_make_Bounds 1 [.bl 0, .sq (.keep [5] c_make_Bounds_2)] (X (tabOf p) (.lp 2 [0, 1, 5, 6] c_make_Bounds_1) ⟨[(0, .ptr 0 0), (1, .p (.i .i64 x1)), (5, .slr 1 0 (List.length s.2.2)), (6, .p (.i .i64 s.1))], [.box (List.map AV.p (e_pagemenddraw_Codes s.2.1)), .arr w1 1 (List.map (r_i .i64) s.2.2)]⟩) = d_make_Bounds o := by
  have h0 : whileO (fun s => S_make_Bounds_1 x1 s.1 s.2.1 s.2.2) s = some o := h
  exact while_ind (P := fun (s : Int × T_pagemenddraw_Codes × (List Int)) (o : (List Int) × T_pagemenddraw_Codes) => rk (tabOf p) f_make_Bounds 1 [.bl 0, .sq (.keep [5] c_make_Bounds_2)] (X (tabOf p) (.lp 2 [0, 1, 5, 6] c_make_Bounds_1) ⟨[(0, .ptr 0 0), (1, .p (.i .i64 x1)), (5, .slr 1 0 (List.length s.2.2)), (6, .p (.i .i64 s.1))], [.box (List.map AV.p (e_pagemenddraw_Codes s.2.1)), .arr w1 1 (List.map (r_i .i64) s.2.2)]⟩) = d_make_Bounds o) (fun s r hs => by rw [rk_lp]; exact e_make_Bounds_1 p hs) (fun s s1 r hs ih => by rw [rk_lp]; exact (e_make_Bounds_1 p hs).trans ih) h0

def S_make_Bounds (b0 : T_pagemenddraw_Codes) (x1 : Int) : Option ((List Int) × T_pagemenddraw_Codes) :=
  W_make_Bounds_1 x1 (1, b0, ([0] : List Int))

theorem e_make_Bounds_top {b0 : T_pagemenddraw_Codes} {x1 : Int} {o : (List Int) × T_pagemenddraw_Codes} (h : S_make_Bounds b0 x1 = some o) :
    rk (tabOf p) f_make_Bounds 1 [] (X (tabOf p) c_make_Bounds ⟨[(0, .ptr 0 0), (1, .p (.i .i64 x1))], [.box (List.map AV.p (e_pagemenddraw_Codes b0))]⟩) = d_make_Bounds o := by
  unfold S_make_Bounds at h
  simp only [↓Da1, ↓Da2, ↓Da3, Ua1, Ua2, Ua3, Ua4, Ua5, Ua6, Ua7, Ua8, Ua9, Ua10, c_make_Bounds, B_pagemenddraw_Codes, ↓reduceIte, Nat.reduceEqDiff, Nat.reduceAdd, Nat.reduceLT, Nat.reduceMul]
  have e0 := e_make_Bounds_1_w p (w1 := true) h
  exact e0


theorem e_make_Bounds {b0 : T_pagemenddraw_Codes} {x1 : Int} {o : (List Int) × T_pagemenddraw_Codes} (h : S_make_Bounds b0 x1 = some o) : AF (tabOf p) i_make_Bounds [.ptr 0 0, .p (.i .i64 x1)] [.box (List.map AV.p (e_pagemenddraw_Codes b0))] = d_make_Bounds o :=
  (AF_rk (tabOf p) (t_make_Bounds p) rfl).trans (e_make_Bounds_top p h)

/-! cmp.Less[int] -/

def d_cmp_Less_int (r : Bool) : Option Res := some (.p (.b r), [])

def S_cmp_Less_int (x0 : Int) (x1 : Int) : Option (Bool) :=
  Option.bind (S_cmp_isNaN_int x0) fun r1 =>
  if r1 then
    Option.bind (S_cmp_isNaN_int x1) fun r5 =>
    if r5 then
      some (decide (x0 < x1))
    else
      some true
  else
    some (decide (x0 < x1))

theorem e_cmp_Less_int_top {x0 : Int} {x1 : Int} {o : Bool} (h : S_cmp_Less_int x0 x1 = some o) :
    rk (tabOf p) f_cmp_Less_int 0 [] (X (tabOf p) c_cmp_Less_int ⟨[(0, .p (.i .i64 x0)), (1, .p (.i .i64 x1))], []⟩) = d_cmp_Less_int o := by
  unfold S_cmp_Less_int at h
  obtain ⟨r1, h2, h⟩ := Option.bind_eq_some_iff.1 h
  have f3 : ∀ ws new s, (callR2 (AF (tabOf p)) i_cmp_isNaN_int ([.p (.i .i64 x0)], ws) 0 new).run s = some ⟨.p (.b r1), ws⟩ := callR2_plain rfl (e_cmp_isNaN_int p h2) rfl
  try simp only [Nf] at f3
  rcases ite_inv h with ⟨h4, h⟩ | ⟨h4, h⟩
  · obtain ⟨r5, h6, h⟩ := Option.bind_eq_some_iff.1 h
    have f7 : ∀ ws new s, (callR2 (AF (tabOf p)) i_cmp_isNaN_int ([.p (.i .i64 x1)], ws) 0 new).run s = some ⟨.p (.b r5), ws⟩ := callR2_plain rfl (e_cmp_isNaN_int p h6) rfl
    try simp only [Nf] at f7
    rcases ite_inv h with ⟨h8, h⟩ | ⟨h8, h⟩
    · obtain rfl := Option.some.inj h
      simp only [↓Da1, ↓Da2, ↓Da3, Ua1, Ua2, Ua3, Ua4, Ua5, Ua6, Ua7, Ua8, Ua9, Ua10, c_cmp_Less_int, f3, h4, f7, h8, z_cmp_Less_int, ↓reduceIte, Nat.reduceEqDiff, Nat.reduceAdd, Nat.reduceLT, Nat.reduceMul]
      rfl
    · obtain rfl := Option.some.inj h
      simp only [↓Da1, ↓Da2, ↓Da3, Ua1, Ua2, Ua3, Ua4, Ua5, Ua6, Ua7, Ua8, Ua9, Ua10, c_cmp_Less_int, f3, h4, f7, h8, z_cmp_Less_int, ↓reduceIte, Nat.reduceEqDiff, Nat.reduceAdd, Nat.reduceLT, Nat.reduceMul]
      rfl
  · obtain rfl := Option.some.inj h
    simp only [↓Da1, ↓Da2, ↓Da3, Ua1, Ua2, Ua3, Ua4, Ua5, Ua6, Ua7, Ua8, Ua9, Ua10, c_cmp_Less_int, f3, h4, z_cmp_Less_int, ↓reduceIte, Nat.reduceEqDiff, Nat.reduceAdd, Nat.reduceLT, Nat.reduceMul]
    rfl


theorem e_cmp_Less_int {x0 : Int} {x1 : Int} {o : Bool} (h : S_cmp_Less_int x0 x1 = some o) : AF (tabOf p) i_cmp_Less_int [.p (.i .i64 x0), .p (.i .i64 x1)] [] = d_cmp_Less_int o :=
  (AF_rk (tabOf p) (t_cmp_Less_int p) rfl).trans (e_cmp_Less_int_top p h)

/-! slices.BinarySearch[[]int,int] -/

def d_slices_BinarySearch_int_int (r : Int × Bool) : Option Res := some (.tup [.p (.i .i64 r.1), .p (.b r.2)], [])

def d_slices_BinarySearch_int_int_0 (x0 : List Int) (x1 : Int) (x6 : Int) (o : (Int × Int) ⊕ (Int × Bool)) : Option Res := match o with
  | .inl s => rk (tabOf p) f_slices_BinarySearch_int_int 0 [.bl 0, .sq (.keep [0, 1, 6, 7] c_slices_BinarySearch_int_int_1)] (X (tabOf p) (.lp 0 [0, 1, 6, 7, 8] c_slices_BinarySearch_int_int_0) ⟨[(0, .p (.sl 1 (List.map (r_i .i64) x0))), (1, .p (.i .i64 x1)), (6, .p (.i .i64 x6)), (7, .p (.i .i64 s.1)), (8, .p (.i .i64 s.2))], []⟩)
  | .inr o => d_slices_BinarySearch_int_int o

def S_slices_BinarySearch_int_int_1 (x0 : List Int) (x1 : Int) (x6 : Int) (x7 : Int) : Option (Int × Bool) :=
  if (decide (x7 < x6)) then
    Option.bind (idx x0 x7) fun y2 =>
    if ((y2 : Int) == x1) then
      some (x7, true)
    else
      Option.bind (S_slices_isNaN_int y2) fun r6 =>
      if r6 then
        Option.bind (S_slices_isNaN_int x1) fun r10 =>
        some (x7, r10)
      else
        some (x7, false)
  else
    some (x7, false)

theorem e_slices_BinarySearch_int_int_1 {x0 : List Int} {x1 : Int} {x6 : Int} {x7 : Int} {o : Int × Bool} (h : S_slices_BinarySearch_int_int_1 x0 x1 x6 x7 = some o) :
    rk (tabOf p) f_slices_BinarySearch_int_int 0 [] (X (tabOf p) c_slices_BinarySearch_int_int_1 ⟨[(0, .p (.sl 1 (List.map (r_i .i64) x0))), (1, .p (.i .i64 x1)), (6, .p (.i .i64 x6)), (7, .p (.i .i64 x7))], []⟩) = d_slices_BinarySearch_int_int o := by
  unfold S_slices_BinarySearch_int_int_1 at h
  rcases ite_inv h with ⟨h1, h⟩ | ⟨h1, h⟩
  · obtain ⟨y2, h3, h⟩ := Option.bind_eq_some_iff.1 h
    have f4 := rowAt_idx (r := (r_i .i64)) h3
    try simp only [Nf] at f4
    rcases ite_inv h with ⟨h5, h⟩ | ⟨h5, h⟩
    · obtain rfl := Option.some.inj h
      simp only [↓Da1, ↓Da2, ↓Da3, Ua1, Ua2, Ua3, Ua4, Ua5, Ua6, Ua7, Ua8, Ua9, Ua10, c_slices_BinarySearch_int_int_1, h1, f4, h5, z_slices_BinarySearch_int_int, ↓reduceIte, Nat.reduceEqDiff, Nat.reduceAdd, Nat.reduceLT, Nat.reduceMul]
      rfl
    · obtain ⟨r6, h7, h⟩ := Option.bind_eq_some_iff.1 h
      have f8 : ∀ ws new s, (callR2 (AF (tabOf p)) i_slices_isNaN_int ([.p (.i .i64 y2)], ws) 0 new).run s = some ⟨.p (.b r6), ws⟩ := callR2_plain rfl (e_slices_isNaN_int p h7) rfl
      try simp only [Nf] at f8
      rcases ite_inv h with ⟨h9, h⟩ | ⟨h9, h⟩
      · obtain ⟨r10, h11, h⟩ := Option.bind_eq_some_iff.1 h
        have f12 : ∀ ws new s, (callR2 (AF (tabOf p)) i_slices_isNaN_int ([.p (.i .i64 x1)], ws) 0 new).run s = some ⟨.p (.b r10), ws⟩ := callR2_plain rfl (e_slices_isNaN_int p h11) rfl
        try simp only [Nf] at f12
        obtain rfl := Option.some.inj h
        simp only [↓Da1, ↓Da2, ↓Da3, Ua1, Ua2, Ua3, Ua4, Ua5, Ua6, Ua7, Ua8, Ua9, Ua10, c_slices_BinarySearch_int_int_1, h1, f4, h5, f8, h9, f12, z_slices_BinarySearch_int_int, ↓reduceIte, Nat.reduceEqDiff, Nat.reduceAdd, Nat.reduceLT, Nat.reduceMul]
        rfl
      · obtain rfl := Option.some.inj h
        simp only [↓Da1, ↓Da2, ↓Da3, Ua1, Ua2, Ua3, Ua4, Ua5, Ua6, Ua7, Ua8, Ua9, Ua10, c_slices_BinarySearch_int_int_1, h1, f4, h5, f8, h9, z_slices_BinarySearch_int_int, ↓reduceIte, Nat.reduceEqDiff, Nat.reduceAdd, Nat.reduceLT, Nat.reduceMul]
        rfl
  · obtain rfl := Option.some.inj h
    simp only [↓Da1, ↓Da2, ↓Da3, Ua1, Ua2, Ua3, Ua4, Ua5, Ua6, Ua7, Ua8, Ua9, Ua10, c_slices_BinarySearch_int_int_1, h1, z_slices_BinarySearch_int_int, ↓reduceIte, Nat.reduceEqDiff, Nat.reduceAdd, Nat.reduceLT, Nat.reduceMul]
    rfl


def S_slices_BinarySearch_int_int_0 (x0 : List Int) (x1 : Int) (x6 : Int) (x7 : Int) (x8 : Int) : Option (((Int × Int) ⊕ (Int × Bool))) :=
  if (decide (x7 < x8)) then
    Option.bind (shrS .u64 (IntKind.wrap .u64 (IntKind.wrap .i64 (x7 + x8))) 1) fun q2 =>
    Option.bind (idx x0 (IntKind.wrap .i64 q2)) fun y4 =>
    Option.bind (S_cmp_Less_int y4 x1) fun r7 =>
    if r7 then
      some (.inl ((IntKind.wrap .i64 ((IntKind.wrap .i64 q2) + 1)), x8))
    else
      some (.inl (x7, (IntKind.wrap .i64 q2)))
  else
    Option.map (fun o => .inr o) (S_slices_BinarySearch_int_int_1 x0 x1 x6 x7)

theorem e_slices_BinarySearch_int_int_0 {x0 : List Int} {x1 : Int} {x6 : Int} {x7 : Int} {x8 : Int} {o : ((Int × Int) ⊕ (Int × Bool))} (h : S_slices_BinarySearch_int_int_0 x0 x1 x6 x7 x8 = some o) :
    rk (tabOf p) f_slices_BinarySearch_int_int 0 [.lo 0 [0, 1, 6, 7, 8] c_slices_BinarySearch_int_int_0, .bl 0, .sq (.keep [0, 1, 6, 7] c_slices_BinarySearch_int_int_1)] (X (tabOf p) c_slices_BinarySearch_int_int_0 ⟨[(0, .p (.sl 1 (List.map (r_i .i64) x0))), (1, .p (.i .i64 x1)), (6, .p (.i .i64 x6)), (7, .p (.i .i64 x7)), (8, .p (.i .i64 x8))], []⟩) = (d_slices_BinarySearch_int_int_0 p x0 x1 x6) o := by
  unfold S_slices_BinarySearch_int_int_0 at h
  rcases ite_inv h with ⟨h1, h⟩ | ⟨h1, h⟩
  · obtain ⟨q2, h3, h⟩ := Option.bind_eq_some_iff.1 h
    obtain ⟨y4, h5, h⟩ := Option.bind_eq_some_iff.1 h
    have f6 := rowAt_idx (r := (r_i .i64)) h5
    try simp only [Nf] at f6
    obtain ⟨r7, h8, h⟩ := Option.bind_eq_some_iff.1 h
    have f9 : ∀ ws new s, (callR2 (AF (tabOf p)) i_cmp_Less_int ([.p (.i .i64 y4), .p (.i .i64 x1)], ws) 0 new).run s = some ⟨.p (.b r7), ws⟩ := callR2_plain rfl (e_cmp_Less_int p h8) rfl
    try simp only [Nf] at f9
    rcases ite_inv h with ⟨h10, h⟩ | ⟨h10, h⟩
    · obtain rfl := Option.some.inj h
      simp only [↓Da1, ↓Da2, ↓Da3, Ua1, Ua2, Ua3, Ua4, Ua5, Ua6, Ua7, Ua8, Ua9, Ua10, c_slices_BinarySearch_int_int_0, h1, h3, f6, f9, h10, ↓reduceIte, Nat.reduceEqDiff, Nat.reduceAdd, Nat.reduceLT, Nat.reduceMul]
      rfl
    · obtain rfl := Option.some.inj h
      simp only [↓Da1, ↓Da2, ↓Da3, Ua1, Ua2, Ua3, Ua4, Ua5, Ua6, Ua7, Ua8, Ua9, Ua10, c_slices_BinarySearch_int_int_0, h1, h3, f6, f9, h10, ↓reduceIte, Nat.reduceEqDiff, Nat.reduceAdd, Nat.reduceLT, Nat.reduceMul]
      rfl
  · obtain ⟨o', h', rfl⟩ := Option.map_eq_some_iff.1 h
    simp only [↓Da1, ↓Da2, ↓Da3, Ua1, Ua2, Ua3, Ua4, Ua5, Ua6, Ua7, Ua8, Ua9, Ua10, c_slices_BinarySearch_int_int_0, h1, ↓reduceIte, Nat.reduceEqDiff, Nat.reduceAdd, Nat.reduceLT, Nat.reduceMul]
    have e0 := e_slices_BinarySearch_int_int_1 p h'
    exact e0


def W_slices_BinarySearch_int_int_0 (x0 : List Int) (x1 : Int) (x6 : Int) (s : Int × Int) : Option (Int × Bool) :=
  whileO (fun s => S_slices_BinarySearch_int_int_0 x0 x1 x6 s.1 s.2) s

theorem e_slices_BinarySearch_int_int_0_w {x0 : List Int} {x1 : Int} {x6 : Int} {s : Int × Int} {o : Int × Bool} (h : W_slices_BinarySearch_int_int_0 x0 x1 x6 s = some o) :
    rk (tabOf p) f_slices_BinarySearch_int_int 0 [.bl 0, .sq (.keep [0, 1, 6, 7] c_slices_BinarySearch_int_int_1)] (X (tabOf p) (.lp 0 [0, 1, 6, 7, 8] c_slices_BinarySearch_int_int_0) ⟨[(0, .p (.sl 1 (List.map (r_i .i64) x0))), (1, .p (.i .i64 x1)), (6, .p (.i .i64 x6)), (7, .p (.i .i64 s.1)), (8, .p (.i .i64 s.2))], []⟩) = d_slices_BinarySearch_int_int o := by
  have h0 : whileO (fun s => S_slices_BinarySearch_int_int_0 x0 x1 x6 s.1 s.2) s = some o := h
  exact while_ind (P := fun (s : Int × Int) (o : Int × Bool) => rk (tabOf p) f_slices_BinarySearch_int_int 0 [.bl 0, .sq (.keep [0, 1, 6, 7] c_slices_BinarySearch_int_int_1)] (X (tabOf p) (.lp 0 [0, 1, 6, 7, 8] c_slices_BinarySearch_int_int_0) ⟨[(0, .p (.sl 1 (List.map (r_i .i64) x0))), (1, .p (.i .i64 x1)), (6, .p (.i .i64 x6)), (7, .p (.i .i64 s.1)), (8, .p (.i .i64 s.2))], []⟩) = d_slices_BinarySearch_int_int o) (fun s r hs => by rw [rk_lp]; exact e_slices_BinarySearch_int_int_0 p hs) (fun s s1 r hs ih => by rw [rk_lp]; exact (e_slices_BinarySearch_int_int_0 p hs).trans ih) h0

def S_slices_BinarySearch_int_int (x0 : List Int) (x1 : Int) : Option (Int × Bool) :=
  W_slices_BinarySearch_int_int_0 x0 x1 ((List.length x0 : Nat) : Int) (0, ((List.length x0 : Nat) : Int))

theorem e_slices_BinarySearch_int_int_top {x0 : List Int} {x1 : Int} {o : Int × Bool} (h : S_slices_BinarySearch_int_int x0 x1 = some o) :
    rk (tabOf p) f_slices_BinarySearch_int_int 0 [] (X (tabOf p) c_slices_BinarySearch_int_int ⟨[(0, .p (.sl 1 (List.map (r_i .i64) x0))), (1, .p (.i .i64 x1))], []⟩) = d_slices_BinarySearch_int_int o := by
  unfold S_slices_BinarySearch_int_int at h
  simp only [↓Da1, ↓Da2, ↓Da3, Ua1, Ua2, Ua3, Ua4, Ua5, Ua6, Ua7, Ua8, Ua9, Ua10, c_slices_BinarySearch_int_int, ↓reduceIte, Nat.reduceEqDiff, Nat.reduceAdd, Nat.reduceLT, Nat.reduceMul]
  have e0 := e_slices_BinarySearch_int_int_0_w p h
  exact e0


theorem e_slices_BinarySearch_int_int {x0 : List Int} {x1 : Int} {o : Int × Bool} (h : S_slices_BinarySearch_int_int x0 x1 = some o) : AF (tabOf p) i_slices_BinarySearch_int_int [.p (.sl 1 (List.map (r_i .i64) x0)), .p (.i .i64 x1)] [] = d_slices_BinarySearch_int_int o :=
  (AF_rk (tabOf p) (t_slices_BinarySearch_int_int p) rfl).trans (e_slices_BinarySearch_int_int_top p h)

/-! pagemend/archiver.Part -/

def d_archiver_Part (r : Int × Int × Bool) : Option Res := some (.tup [.p (.i .i64 r.1), .p (.i .i64 r.2.1), .p (.b r.2.2)], [])

def S_archiver_Part_0 (x7 : Int) (b0 : T_api_Archive) : Option (Int × Int × Bool) :=
  Option.bind (S_archiver_part b0 x7) fun r1 =>
  some (r1.1, r1.2, true)

theorem e_archiver_Part_0 {x7 : Int} {b0 : T_api_Archive} {o : Int × Int × Bool} (h : S_archiver_Part_0 x7 b0 = some o) :
    rk (tabOf p) f_archiver_Part 0 [] (X (tabOf p) c_archiver_Part_0 ⟨[(2, .ptr 0 0), (7, .p (.i .i64 x7))], [.box (List.map AV.p (e_api_Archive b0))]⟩) = d_archiver_Part o := by
  unfold S_archiver_Part_0 at h
  obtain ⟨r1, h2, h⟩ := Option.bind_eq_some_iff.1 h
  have f3 : ∀ ws new s, (callR2 (AF (tabOf p)) i_archiver_part ([.data (e_api_Archive b0), .p (.i .i64 x7)], ws) 0 new).run s = some ⟨.tup [.p (.i .i64 r1.1), .p (.i .i64 r1.2)], ws⟩ := callR2_plain rfl (e_archiver_part p h2) rfl
  try simp only [Nf] at f3
  obtain rfl := Option.some.inj h
  simp only [↓Da1, ↓Da2, ↓Da3, Ua1, Ua2, Ua3, Ua4, Ua5, Ua6, Ua7, Ua8, Ua9, Ua10, c_archiver_Part_0, B_api_Archive, B_api_File, f3, z_archiver_Part, ↓reduceIte, Nat.reduceEqDiff, Nat.reduceAdd, Nat.reduceLT, Nat.reduceMul]
  rfl


def S_archiver_Part (x0 : T_api_Archive) (x1 : Int) : Option (Int × Int × Bool) :=
  Option.bind (S_archiver_Valid x0) fun r1 =>
  if r1 then
    if (decide (x1 < 0)) then
      some (0, 0, false)
    else
      if (decide (x1 ≥ x0.Pages)) then
        some (0, 0, false)
      else
        Option.bind (S_slices_BinarySearch_int_int x0.Bounds x1) fun r7 =>
        if r7.2 then
          S_archiver_Part_0 r7.1 x0
        else
          S_archiver_Part_0 (IntKind.wrap .i64 (r7.1 - 1)) x0
  else
    some (0, 0, false)

theorem e_archiver_Part_top {x0 : T_api_Archive} {x1 : Int} {o : Int × Int × Bool} (h : S_archiver_Part x0 x1 = some o) :
    rk (tabOf p) f_archiver_Part 0 [] (X (tabOf p) c_archiver_Part ⟨[(0, .data (e_api_Archive x0)), (1, .p (.i .i64 x1))], []⟩) = d_archiver_Part o := by
  unfold S_archiver_Part at h
  obtain ⟨r1, h2, h⟩ := Option.bind_eq_some_iff.1 h
  have f3 : ∀ ws new s, (callR2 (AF (tabOf p)) i_archiver_Valid ([.data (e_api_Archive x0)], ws) 0 new).run s = some ⟨.p (.b r1), ws⟩ := callR2_plain rfl (e_archiver_Valid p h2) rfl
  try simp only [Nf] at f3
  rcases ite_inv h with ⟨h4, h⟩ | ⟨h4, h⟩
  · rcases ite_inv h with ⟨h5, h⟩ | ⟨h5, h⟩
    · obtain rfl := Option.some.inj h
      simp only [↓Da1, ↓Da2, ↓Da3, Ua1, Ua2, Ua3, Ua4, Ua5, Ua6, Ua7, Ua8, Ua9, Ua10, c_archiver_Part, B_api_Archive, B_api_File, f3, h4, h5, z_archiver_Part, ↓reduceIte, Nat.reduceEqDiff, Nat.reduceAdd, Nat.reduceLT, Nat.reduceMul]
      rfl
    · rcases ite_inv h with ⟨h6, h⟩ | ⟨h6, h⟩
      · obtain rfl := Option.some.inj h
        simp only [↓Da1, ↓Da2, ↓Da3, Ua1, Ua2, Ua3, Ua4, Ua5, Ua6, Ua7, Ua8, Ua9, Ua10, c_archiver_Part, B_api_Archive, B_api_File, f3, h4, h5, h6, z_archiver_Part, ↓reduceIte, Nat.reduceEqDiff, Nat.reduceAdd, Nat.reduceLT, Nat.reduceMul]
        rfl
      · obtain ⟨r7, h8, h⟩ := Option.bind_eq_some_iff.1 h
        have f9 : ∀ ws new s, (callR2 (AF (tabOf p)) i_slices_BinarySearch_int_int ([.p (.sl 1 (List.map (r_i .i64) x0.Bounds)), .p (.i .i64 x1)], ws) 0 new).run s = some ⟨.tup [.p (.i .i64 r7.1), .p (.b r7.2)], ws⟩ := callR2_plain rfl (e_slices_BinarySearch_int_int p h8) rfl
        try simp only [Nf] at f9
        rcases ite_inv h with ⟨h10, h⟩ | ⟨h10, h⟩
        · simp only [↓Da1, ↓Da2, ↓Da3, Ua1, Ua2, Ua3, Ua4, Ua5, Ua6, Ua7, Ua8, Ua9, Ua10, c_archiver_Part, B_api_Archive, B_api_File, f3, h4, h5, h6, f9, h10, ↓reduceIte, Nat.reduceEqDiff, Nat.reduceAdd, Nat.reduceLT, Nat.reduceMul]
          have e0 := e_archiver_Part_0 p h
          exact e0
        · simp only [↓Da1, ↓Da2, ↓Da3, Ua1, Ua2, Ua3, Ua4, Ua5, Ua6, Ua7, Ua8, Ua9, Ua10, c_archiver_Part, B_api_Archive, B_api_File, f3, h4, h5, h6, f9, h10, ↓reduceIte, Nat.reduceEqDiff, Nat.reduceAdd, Nat.reduceLT, Nat.reduceMul]
          have e0 := e_archiver_Part_0 p h
          exact e0
  · obtain rfl := Option.some.inj h
    simp only [↓Da1, ↓Da2, ↓Da3, Ua1, Ua2, Ua3, Ua4, Ua5, Ua6, Ua7, Ua8, Ua9, Ua10, c_archiver_Part, B_api_Archive, B_api_File, f3, h4, z_archiver_Part, ↓reduceIte, Nat.reduceEqDiff, Nat.reduceAdd, Nat.reduceLT, Nat.reduceMul]
    rfl


theorem e_archiver_Part {x0 : T_api_Archive} {x1 : Int} {o : Int × Int × Bool} (h : S_archiver_Part x0 x1 = some o) : AF (tabOf p) i_archiver_Part [.data (e_api_Archive x0), .p (.i .i64 x1)] [] = d_archiver_Part o :=
  (AF_rk (tabOf p) (t_archiver_Part p) rfl).trans (e_archiver_Part_top p h)

/-! pagemend/pagemendlaw25.awake -/

def d_law25_awake (r : Bool) : Option Res := some (.p (.b r), [])

def S_law25_awake  : Option (Bool) :=
  Option.bind (S_archiver_New 8 ([0, 4] : List Int)) fun r1 =>
  Option.bind (S_archiver_Part r1.1 3) fun r4 =>
  if ((r1.2 : Int) == 0) then
    if ((r1.1.Next : Int) == 1) then
      if r4.2.2 then
        some ((r4.2.1 : Int) == 3)
      else
        some false
    else
      some false
  else
    some false

theorem e_law25_awake_top  {o : Bool} (h : S_law25_awake = some o) :
    rk (tabOf p) f_law25_awake 0 [] (X (tabOf p) c_law25_awake ⟨[], []⟩) = d_law25_awake o := by
  unfold S_law25_awake at h
  obtain ⟨r1, h2, h⟩ := Option.bind_eq_some_iff.1 h
  have f3 : ∀ ws new s, (callR2 (AF (tabOf p)) i_archiver_New ([.p (.i .i64 8), .p (.sl 1 (List.map (r_i .i64) ([0, 4] : List Int)))], ws) 0 new).run s = some ⟨.tup [.data (e_api_Archive r1.1), .p (.i .i64 r1.2)], ws⟩ := callR2_plain rfl (e_archiver_New p h2) rfl
  try simp only [Nf] at f3
  obtain ⟨r4, h5, h⟩ := Option.bind_eq_some_iff.1 h
  have f6 : ∀ ws new s, (callR2 (AF (tabOf p)) i_archiver_Part ([.data (e_api_Archive r1.1), .p (.i .i64 3)], ws) 0 new).run s = some ⟨.tup [.p (.i .i64 r4.1), .p (.i .i64 r4.2.1), .p (.b r4.2.2)], ws⟩ := callR2_plain rfl (e_archiver_Part p h5) rfl
  try simp only [Nf] at f6
  rcases ite_inv h with ⟨h7, h⟩ | ⟨h7, h⟩
  · rcases ite_inv h with ⟨h8, h⟩ | ⟨h8, h⟩
    · rcases ite_inv h with ⟨h9, h⟩ | ⟨h9, h⟩
      · obtain rfl := Option.some.inj h
        simp only [↓Da1, ↓Da2, ↓Da3, Ua1, Ua2, Ua3, Ua4, Ua5, Ua6, Ua7, Ua8, Ua9, Ua10, c_law25_awake, B_api_Archive, B_api_File, f3, f6, h7, h8, h9, z_law25_awake, ↓reduceIte, Nat.reduceEqDiff, Nat.reduceAdd, Nat.reduceLT, Nat.reduceMul]
        rfl
      · obtain rfl := Option.some.inj h
        simp only [↓Da1, ↓Da2, ↓Da3, Ua1, Ua2, Ua3, Ua4, Ua5, Ua6, Ua7, Ua8, Ua9, Ua10, c_law25_awake, B_api_Archive, B_api_File, f3, f6, h7, h8, h9, z_law25_awake, ↓reduceIte, Nat.reduceEqDiff, Nat.reduceAdd, Nat.reduceLT, Nat.reduceMul]
        rfl
    · obtain rfl := Option.some.inj h
      simp only [↓Da1, ↓Da2, ↓Da3, Ua1, Ua2, Ua3, Ua4, Ua5, Ua6, Ua7, Ua8, Ua9, Ua10, c_law25_awake, B_api_Archive, B_api_File, f3, f6, h7, h8, z_law25_awake, ↓reduceIte, Nat.reduceEqDiff, Nat.reduceAdd, Nat.reduceLT, Nat.reduceMul]
      rfl
  · obtain rfl := Option.some.inj h
    simp only [↓Da1, ↓Da2, ↓Da3, Ua1, Ua2, Ua3, Ua4, Ua5, Ua6, Ua7, Ua8, Ua9, Ua10, c_law25_awake, B_api_Archive, B_api_File, f3, f6, h7, z_law25_awake, ↓reduceIte, Nat.reduceEqDiff, Nat.reduceAdd, Nat.reduceLT, Nat.reduceMul]
    rfl


theorem e_law25_awake  {o : Bool} (h : S_law25_awake = some o) : AF (tabOf p) i_law25_awake [] [] = d_law25_awake o :=
  (AF_rk (tabOf p) (t_law25_awake p) rfl).trans (e_law25_awake_top p h)

/-! pagemend/pagemendlaw25.ArchiverParts -/

def d_law25_ArchiverParts (r : Bool) : Option Res := some (.p (.b r), [])

def d_law25_ArchiverParts_2 (x6 : Int) (x8 : Int) (b1 : T_api_Archive) (B0 : Blk) (o : (Int × Int) ⊕ (Bool)) : Option Res := match o with
  | .inl s => rk (tabOf p) f_law25_ArchiverParts 0 [.bl 0, .sq (.keep [6, 7, 8, 9, 10] c_law25_ArchiverParts_3)] (X (tabOf p) (.lp 2 [6, 7, 8, 9, 10] c_law25_ArchiverParts_2) ⟨[(6, .p (.i .i64 x6)), (7, .ptr 1 0), (8, .p (.i .i64 x8)), (9, .p (.i .i64 s.1)), (10, .p (.i .i64 s.2))], [B0, .box (List.map AV.p (e_api_Archive b1))]⟩)
  | .inr o => d_law25_ArchiverParts o

def d_law25_ArchiverParts_0 (x6 : Int) (x8 : Int) (x10 : Int) (x11 : Int) (x12 : Int) (b1 : T_api_Archive) (B0 : Blk) (o : (Int) ⊕ (((Int × Int) ⊕ (Bool)))) : Option Res := match o with
  | .inl s => rk (tabOf p) f_law25_ArchiverParts 0 [.bl 2, .sq (.keep [6, 7, 8, 10, 12] c_law25_ArchiverParts_1), .bl 1, .lo 2 [6, 7, 8, 9, 10] c_law25_ArchiverParts_2, .bl 0, .sq (.keep [6, 7, 8, 9, 10] c_law25_ArchiverParts_3)] (X (tabOf p) (.lp 2 [6, 7, 8, 10, 11, 12, 14] c_law25_ArchiverParts_0) ⟨[(6, .p (.i .i64 x6)), (7, .ptr 1 0), (8, .p (.i .i64 x8)), (10, .p (.i .i64 x10)), (11, .p (.i .i64 x11)), (12, .p (.i .i64 x12)), (14, .p (.i .i64 s))], [B0, .box (List.map AV.p (e_api_Archive b1))]⟩)
  | .inr o => (d_law25_ArchiverParts_2 p x6 x8 b1 B0) o

def S_law25_ArchiverParts_1 (x6 : Int) (x8 : Int) (x10 : Int) (x12 : Int) (b1 : T_api_Archive) : Option (((Int × Int) ⊕ (Bool))) :=
  some (.inl ((IntKind.wrap .i64 (x12 + 1)), (IntKind.wrap .i64 (x10 + 1))))

theorem e_law25_ArchiverParts_1 {x6 : Int} {x8 : Int} {x10 : Int} {x12 : Int} {b1 : T_api_Archive} {B0 : Blk} {o : ((Int × Int) ⊕ (Bool))} (h : S_law25_ArchiverParts_1 x6 x8 x10 x12 b1 = some o) :
    rk (tabOf p) f_law25_ArchiverParts 0 [.bl 1, .lo 2 [6, 7, 8, 9, 10] c_law25_ArchiverParts_2, .bl 0, .sq (.keep [6, 7, 8, 9, 10] c_law25_ArchiverParts_3)] (X (tabOf p) c_law25_ArchiverParts_1 ⟨[(6, .p (.i .i64 x6)), (7, .ptr 1 0), (8, .p (.i .i64 x8)), (10, .p (.i .i64 x10)), (12, .p (.i .i64 x12))], [B0, .box (List.map AV.p (e_api_Archive b1))]⟩) = (d_law25_ArchiverParts_2 p x6 x8 b1 B0) o := by
  unfold S_law25_ArchiverParts_1 at h
  obtain rfl := Option.some.inj h
  simp only [↓Da1, ↓Da2, ↓Da3, Ua1, Ua2, Ua3, Ua4, Ua5, Ua6, Ua7, Ua8, Ua9, Ua10, c_law25_ArchiverParts_1, ↓reduceIte, Nat.reduceEqDiff, Nat.reduceAdd, Nat.reduceLT, Nat.reduceMul]
  rfl


def S_law25_ArchiverParts_0 (x6 : Int) (x8 : Int) (x10 : Int) (x11 : Int) (x12 : Int) (b1 : T_api_Archive) (x14 : Int) : Option (((Int) ⊕ (((Int × Int) ⊕ (Bool))))) :=
  if (decide (x14 ≤ x12)) then
    Option.bind (S_archiver_Part b1 x14) fun r2 =>
    if r2.2.2 then
      if ((r2.1 : Int) != x11) then
        some (.inr (.inr false))
      else
        if ((r2.2.1 : Int) != x12) then
          some (.inr (.inr false))
        else
          some (.inl (IntKind.wrap .i64 (x14 + 1)))
    else
      some (.inr (.inr false))
  else
    Option.map (fun o => .inr o) (S_law25_ArchiverParts_1 x6 x8 x10 x12 b1)

theorem e_law25_ArchiverParts_0 {x6 : Int} {x8 : Int} {x10 : Int} {x11 : Int} {x12 : Int} {b1 : T_api_Archive} {x14 : Int} {B0 : Blk} {o : ((Int) ⊕ (((Int × Int) ⊕ (Bool))))} (h : S_law25_ArchiverParts_0 x6 x8 x10 x11 x12 b1 x14 = some o) :
    rk (tabOf p) f_law25_ArchiverParts 0 [.lo 2 [6, 7, 8, 10, 11, 12, 14] c_law25_ArchiverParts_0, .bl 2, .sq (.keep [6, 7, 8, 10, 12] c_law25_ArchiverParts_1), .bl 1, .lo 2 [6, 7, 8, 9, 10] c_law25_ArchiverParts_2, .bl 0, .sq (.keep [6, 7, 8, 9, 10] c_law25_ArchiverParts_3)] (X (tabOf p) c_law25_ArchiverParts_0 ⟨[(6, .p (.i .i64 x6)), (7, .ptr 1 0), (8, .p (.i .i64 x8)), (10, .p (.i .i64 x10)), (11, .p (.i .i64 x11)), (12, .p (.i .i64 x12)), (14, .p (.i .i64 x14))], [B0, .box (List.map AV.p (e_api_Archive b1))]⟩) = (d_law25_ArchiverParts_0 p x6 x8 x10 x11 x12 b1 B0) o := by
  unfold S_law25_ArchiverParts_0 at h
  rcases ite_inv h with ⟨h1, h⟩ | ⟨h1, h⟩
  · obtain ⟨r2, h3, h⟩ := Option.bind_eq_some_iff.1 h
    have f4 : ∀ ws new s, (callR2 (AF (tabOf p)) i_archiver_Part ([.data (e_api_Archive b1), .p (.i .i64 x14)], ws) 0 new).run s = some ⟨.tup [.p (.i .i64 r2.1), .p (.i .i64 r2.2.1), .p (.b r2.2.2)], ws⟩ := callR2_plain rfl (e_archiver_Part p h3) rfl
    try simp only [Nf] at f4
    rcases ite_inv h with ⟨h5, h⟩ | ⟨h5, h⟩
    · rcases ite_inv h with ⟨h6, h⟩ | ⟨h6, h⟩
      · obtain rfl := Option.some.inj h
        simp only [↓Da1, ↓Da2, ↓Da3, Ua1, Ua2, Ua3, Ua4, Ua5, Ua6, Ua7, Ua8, Ua9, Ua10, c_law25_ArchiverParts_0, B_api_Archive, B_api_File, h1, f4, h5, h6, z_law25_ArchiverParts, ↓reduceIte, Nat.reduceEqDiff, Nat.reduceAdd, Nat.reduceLT, Nat.reduceMul]
        rfl
      · rcases ite_inv h with ⟨h7, h⟩ | ⟨h7, h⟩
        · obtain rfl := Option.some.inj h
          simp only [↓Da1, ↓Da2, ↓Da3, Ua1, Ua2, Ua3, Ua4, Ua5, Ua6, Ua7, Ua8, Ua9, Ua10, c_law25_ArchiverParts_0, B_api_Archive, B_api_File, h1, f4, h5, h6, h7, z_law25_ArchiverParts, ↓reduceIte, Nat.reduceEqDiff, Nat.reduceAdd, Nat.reduceLT, Nat.reduceMul]
          rfl
        · obtain rfl := Option.some.inj h
          simp only [↓Da1, ↓Da2, ↓Da3, Ua1, Ua2, Ua3, Ua4, Ua5, Ua6, Ua7, Ua8, Ua9, Ua10, c_law25_ArchiverParts_0, B_api_Archive, B_api_File, h1, f4, h5, h6, h7, ↓reduceIte, Nat.reduceEqDiff, Nat.reduceAdd, Nat.reduceLT, Nat.reduceMul]
          rfl
    · obtain rfl := Option.some.inj h
      simp only [↓Da1, ↓Da2, ↓Da3, Ua1, Ua2, Ua3, Ua4, Ua5, Ua6, Ua7, Ua8, Ua9, Ua10, c_law25_ArchiverParts_0, B_api_Archive, B_api_File, h1, f4, h5, z_law25_ArchiverParts, ↓reduceIte, Nat.reduceEqDiff, Nat.reduceAdd, Nat.reduceLT, Nat.reduceMul]
      rfl
  · obtain ⟨o', h', rfl⟩ := Option.map_eq_some_iff.1 h
    simp only [↓Da1, ↓Da2, ↓Da3, Ua1, Ua2, Ua3, Ua4, Ua5, Ua6, Ua7, Ua8, Ua9, Ua10, c_law25_ArchiverParts_0, B_api_Archive, B_api_File, h1, ↓reduceIte, Nat.reduceEqDiff, Nat.reduceAdd, Nat.reduceLT, Nat.reduceMul]
    have e0 := e_law25_ArchiverParts_1 p (B0 := B0) h'
    exact e0


def W_law25_ArchiverParts_0 (x6 : Int) (x8 : Int) (x10 : Int) (x11 : Int) (x12 : Int) (b1 : T_api_Archive) (s : Int) : Option (((Int × Int) ⊕ (Bool))) :=
  whileO (fun s => S_law25_ArchiverParts_0 x6 x8 x10 x11 x12 b1 s) s

theorem e_law25_ArchiverParts_0_w {x6 : Int} {x8 : Int} {x10 : Int} {x11 : Int} {x12 : Int} {b1 : T_api_Archive} {B0 : Blk} {s : Int} {o : ((Int × Int) ⊕ (Bool))} (h : W_law25_ArchiverParts_0 x6 x8 x10 x11 x12 b1 s = some o) :
    rk (tabOf p) f_law25_ArchiverParts 0 [.bl 2, .sq (.keep [6, 7, 8, 10, 12] c_law25_ArchiverParts_1), .bl 1, .lo 2 [6, 7, 8, 9, 10] c_law25_ArchiverParts_2, .bl 0, .sq (.keep [6, 7, 8, 9, 10] c_law25_ArchiverParts_3)] (X (tabOf p) (.lp 2 [6, 7, 8, 10, 11, 12, 14] c_law25_ArchiverParts_0) ⟨[(6, .p (.i .i64 x6)), (7, .ptr 1 0), (8, .p (.i .i64 x8)), (10, .p (.i .i64 x10)), (11, .p (.i .i64 x11)), (12, .p (.i .i64 x12)), (14, .p (.i .i64 s))], [B0, .box (List.map AV.p (e_api_Archive b1))]⟩) = (d_law25_ArchiverParts_2 p x6 x8 b1 B0) o := by
  have h0 : whileO (fun s => S_law25_ArchiverParts_0 x6 x8 x10 x11 x12 b1 s) s = some o := h
  exact while_ind (P := fun (s : Int) (o : ((Int × Int) ⊕ (Bool))) => rk (tabOf p) f_law25_ArchiverParts 0 [.bl 2, .sq (.keep [6, 7, 8, 10, 12] c_law25_ArchiverParts_1), .bl 1, .lo 2 [6, 7, 8, 9, 10] c_law25_ArchiverParts_2, .bl 0, .sq (.keep [6, 7, 8, 9, 10] c_law25_ArchiverParts_3)] (X (tabOf p) (.lp 2 [6, 7, 8, 10, 11, 12, 14] c_law25_ArchiverParts_0) ⟨[(6, .p (.i .i64 x6)), (7, .ptr 1 0), (8, .p (.i .i64 x8)), (10, .p (.i .i64 x10)), (11, .p (.i .i64 x11)), (12, .p (.i .i64 x12)), (14, .p (.i .i64 s))], [B0, .box (List.map AV.p (e_api_Archive b1))]⟩) = (d_law25_ArchiverParts_2 p x6 x8 b1 B0) o) (fun s r hs => by rw [rk_lp]; exact e_law25_ArchiverParts_0 p hs) (fun s s1 r hs ih => by rw [rk_lp]; exact (e_law25_ArchiverParts_0 p hs).trans ih) h0

def S_law25_ArchiverParts_3 (x6 : Int) (x8 : Int) (x9 : Int) (x10 : Int) (b1 : T_api_Archive) : Option (Bool) :=
  Option.bind (S_archiver_Part b1 x6) fun r1 =>
  if ((x8 : Int) == 0) then
    if ((x9 : Int) == x6) then
      if ((x10 : Int) == ((List.length b1.Bounds : Nat) : Int)) then
        some (!r1.2.2)
      else
        some false
    else
      some false
  else
    some false

theorem e_law25_ArchiverParts_3 {x6 : Int} {x8 : Int} {x9 : Int} {x10 : Int} {b1 : T_api_Archive} {B0 : Blk} {o : Bool} (h : S_law25_ArchiverParts_3 x6 x8 x9 x10 b1 = some o) :
    rk (tabOf p) f_law25_ArchiverParts 0 [] (X (tabOf p) c_law25_ArchiverParts_3 ⟨[(6, .p (.i .i64 x6)), (7, .ptr 1 0), (8, .p (.i .i64 x8)), (9, .p (.i .i64 x9)), (10, .p (.i .i64 x10))], [B0, .box (List.map AV.p (e_api_Archive b1))]⟩) = d_law25_ArchiverParts o := by
  unfold S_law25_ArchiverParts_3 at h
  obtain ⟨r1, h2, h⟩ := Option.bind_eq_some_iff.1 h
  have f3 : ∀ ws new s, (callR2 (AF (tabOf p)) i_archiver_Part ([.data (e_api_Archive b1), .p (.i .i64 x6)], ws) 0 new).run s = some ⟨.tup [.p (.i .i64 r1.1), .p (.i .i64 r1.2.1), .p (.b r1.2.2)], ws⟩ := callR2_plain rfl (e_archiver_Part p h2) rfl
  try simp only [Nf] at f3
  rcases ite_inv h with ⟨h4, h⟩ | ⟨h4, h⟩
  · rcases ite_inv h with ⟨h5, h⟩ | ⟨h5, h⟩
    · rcases ite_inv h with ⟨h6, h⟩ | ⟨h6, h⟩
      · obtain rfl := Option.some.inj h
        simp only [↓Da1, ↓Da2, ↓Da3, Ua1, Ua2, Ua3, Ua4, Ua5, Ua6, Ua7, Ua8, Ua9, Ua10, c_law25_ArchiverParts_3, B_api_Archive, B_api_File, f3, h4, h5, h6, z_law25_ArchiverParts, ↓reduceIte, Nat.reduceEqDiff, Nat.reduceAdd, Nat.reduceLT, Nat.reduceMul]
        rfl
      · obtain rfl := Option.some.inj h
        simp only [↓Da1, ↓Da2, ↓Da3, Ua1, Ua2, Ua3, Ua4, Ua5, Ua6, Ua7, Ua8, Ua9, Ua10, c_law25_ArchiverParts_3, B_api_Archive, B_api_File, f3, h4, h5, h6, z_law25_ArchiverParts, ↓reduceIte, Nat.reduceEqDiff, Nat.reduceAdd, Nat.reduceLT, Nat.reduceMul]
        rfl
    · obtain rfl := Option.some.inj h
      simp only [↓Da1, ↓Da2, ↓Da3, Ua1, Ua2, Ua3, Ua4, Ua5, Ua6, Ua7, Ua8, Ua9, Ua10, c_law25_ArchiverParts_3, B_api_Archive, B_api_File, f3, h4, h5, z_law25_ArchiverParts, ↓reduceIte, Nat.reduceEqDiff, Nat.reduceAdd, Nat.reduceLT, Nat.reduceMul]
      rfl
  · obtain rfl := Option.some.inj h
    simp only [↓Da1, ↓Da2, ↓Da3, Ua1, Ua2, Ua3, Ua4, Ua5, Ua6, Ua7, Ua8, Ua9, Ua10, c_law25_ArchiverParts_3, B_api_Archive, B_api_File, f3, h4, z_law25_ArchiverParts, ↓reduceIte, Nat.reduceEqDiff, Nat.reduceAdd, Nat.reduceLT, Nat.reduceMul]
    rfl


def S_law25_ArchiverParts_2 (x6 : Int) (x8 : Int) (b1 : T_api_Archive) (x9 : Int) (x10 : Int) : Option (((Int × Int) ⊕ (Bool))) :=
  if (decide (x9 < x6)) then
    if (decide (x10 ≤ x6)) then
      Option.bind (S_archiver_Part b1 x9) fun r3 =>
      if r3.2.2 then
        if ((r3.1 : Int) != x9) then
          some (.inr false)
        else
          if (decide (r3.2.1 < r3.1)) then
            some (.inr false)
          else
            W_law25_ArchiverParts_0 x6 x8 x10 r3.1 r3.2.1 b1 r3.1
      else
        some (.inr false)
    else
      Option.map (fun o => .inr o) (S_law25_ArchiverParts_3 x6 x8 x9 x10 b1)
  else
    Option.map (fun o => .inr o) (S_law25_ArchiverParts_3 x6 x8 x9 x10 b1)

theorem e_law25_ArchiverParts_2 {x6 : Int} {x8 : Int} {b1 : T_api_Archive} {x9 : Int} {x10 : Int} {B0 : Blk} {o : ((Int × Int) ⊕ (Bool))} (h : S_law25_ArchiverParts_2 x6 x8 b1 x9 x10 = some o) :
    rk (tabOf p) f_law25_ArchiverParts 0 [.lo 2 [6, 7, 8, 9, 10] c_law25_ArchiverParts_2, .bl 0, .sq (.keep [6, 7, 8, 9, 10] c_law25_ArchiverParts_3)] (X (tabOf p) c_law25_ArchiverParts_2 ⟨[(6, .p (.i .i64 x6)), (7, .ptr 1 0), (8, .p (.i .i64 x8)), (9, .p (.i .i64 x9)), (10, .p (.i .i64 x10))], [B0, .box (List.map AV.p (e_api_Archive b1))]⟩) = (d_law25_ArchiverParts_2 p x6 x8 b1 B0) o := by
  unfold S_law25_ArchiverParts_2 at h
  rcases ite_inv h with ⟨h1, h⟩ | ⟨h1, h⟩
  · rcases ite_inv h with ⟨h2, h⟩ | ⟨h2, h⟩
    · obtain ⟨r3, h4, h⟩ := Option.bind_eq_some_iff.1 h
      have f5 : ∀ ws new s, (callR2 (AF (tabOf p)) i_archiver_Part ([.data (e_api_Archive b1), .p (.i .i64 x9)], ws) 0 new).run s = some ⟨.tup [.p (.i .i64 r3.1), .p (.i .i64 r3.2.1), .p (.b r3.2.2)], ws⟩ := callR2_plain rfl (e_archiver_Part p h4) rfl
      try simp only [Nf] at f5
      rcases ite_inv h with ⟨h6, h⟩ | ⟨h6, h⟩
      · rcases ite_inv h with ⟨h7, h⟩ | ⟨h7, h⟩
        · obtain rfl := Option.some.inj h
          simp only [↓Da1, ↓Da2, ↓Da3, Ua1, Ua2, Ua3, Ua4, Ua5, Ua6, Ua7, Ua8, Ua9, Ua10, c_law25_ArchiverParts_2, B_api_Archive, B_api_File, h1, h2, f5, h6, h7, z_law25_ArchiverParts, ↓reduceIte, Nat.reduceEqDiff, Nat.reduceAdd, Nat.reduceLT, Nat.reduceMul]
          rfl
        · rcases ite_inv h with ⟨h8, h⟩ | ⟨h8, h⟩
          · obtain rfl := Option.some.inj h
            simp only [↓Da1, ↓Da2, ↓Da3, Ua1, Ua2, Ua3, Ua4, Ua5, Ua6, Ua7, Ua8, Ua9, Ua10, c_law25_ArchiverParts_2, B_api_Archive, B_api_File, h1, h2, f5, h6, h7, h8, z_law25_ArchiverParts, ↓reduceIte, Nat.reduceEqDiff, Nat.reduceAdd, Nat.reduceLT, Nat.reduceMul]
            rfl
          · simp only [↓Da1, ↓Da2, ↓Da3, Ua1, Ua2, Ua3, Ua4, Ua5, Ua6, Ua7, Ua8, Ua9, Ua10, c_law25_ArchiverParts_2, B_api_Archive, B_api_File, h1, h2, f5, h6, h7, h8, ↓reduceIte, Nat.reduceEqDiff, Nat.reduceAdd, Nat.reduceLT, Nat.reduceMul]
            have e0 := e_law25_ArchiverParts_0_w p (B0 := B0) h
            exact e0
      · obtain rfl := Option.some.inj h
        simp only [↓Da1, ↓Da2, ↓Da3, Ua1, Ua2, Ua3, Ua4, Ua5, Ua6, Ua7, Ua8, Ua9, Ua10, c_law25_ArchiverParts_2, B_api_Archive, B_api_File, h1, h2, f5, h6, z_law25_ArchiverParts, ↓reduceIte, Nat.reduceEqDiff, Nat.reduceAdd, Nat.reduceLT, Nat.reduceMul]
        rfl
    · obtain ⟨o', h', rfl⟩ := Option.map_eq_some_iff.1 h
      simp only [↓Da1, ↓Da2, ↓Da3, Ua1, Ua2, Ua3, Ua4, Ua5, Ua6, Ua7, Ua8, Ua9, Ua10, c_law25_ArchiverParts_2, B_api_Archive, B_api_File, h1, h2, ↓reduceIte, Nat.reduceEqDiff, Nat.reduceAdd, Nat.reduceLT, Nat.reduceMul]
      have e0 := e_law25_ArchiverParts_3 p (B0 := B0) h'
      exact e0
  · obtain ⟨o', h', rfl⟩ := Option.map_eq_some_iff.1 h
    simp only [↓Da1, ↓Da2, ↓Da3, Ua1, Ua2, Ua3, Ua4, Ua5, Ua6, Ua7, Ua8, Ua9, Ua10, c_law25_ArchiverParts_2, B_api_Archive, B_api_File, h1, ↓reduceIte, Nat.reduceEqDiff, Nat.reduceAdd, Nat.reduceLT, Nat.reduceMul]
    have e0 := e_law25_ArchiverParts_3 p (B0 := B0) h'
    exact e0


def W_law25_ArchiverParts_2 (x6 : Int) (x8 : Int) (b1 : T_api_Archive) (s : Int × Int) : Option (Bool) :=
  whileO (fun s => S_law25_ArchiverParts_2 x6 x8 b1 s.1 s.2) s

theorem e_law25_ArchiverParts_2_w {x6 : Int} {x8 : Int} {b1 : T_api_Archive} {B0 : Blk} {s : Int × Int} {o : Bool} (h : W_law25_ArchiverParts_2 x6 x8 b1 s = some o) :
    rk (tabOf p) f_law25_ArchiverParts 0 [.bl 0, .sq (.keep [6, 7, 8, 9, 10] c_law25_ArchiverParts_3)] (X (tabOf p) (.lp 2 [6, 7, 8, 9, 10] c_law25_ArchiverParts_2) ⟨[(6, .p (.i .i64 x6)), (7, .ptr 1 0), (8, .p (.i .i64 x8)), (9, .p (.i .i64 s.1)), (10, .p (.i .i64 s.2))], [B0, .box (List.map AV.p (e_api_Archive b1))]⟩) = d_law25_ArchiverParts o := by
  have h0 : whileO (fun s => S_law25_ArchiverParts_2 x6 x8 b1 s.1 s.2) s = some o := h
  exact while_ind (P := fun (s : Int × Int) (o : Bool) => rk (tabOf p) f_law25_ArchiverParts 0 [.bl 0, .sq (.keep [6, 7, 8, 9, 10] c_law25_ArchiverParts_3)] (X (tabOf p) (.lp 2 [6, 7, 8, 9, 10] c_law25_ArchiverParts_2) ⟨[(6, .p (.i .i64 x6)), (7, .ptr 1 0), (8, .p (.i .i64 x8)), (9, .p (.i .i64 s.1)), (10, .p (.i .i64 s.2))], [B0, .box (List.map AV.p (e_api_Archive b1))]⟩) = d_law25_ArchiverParts o) (fun s r hs => by rw [rk_lp]; exact e_law25_ArchiverParts_2 p hs) (fun s s1 r hs ih => by rw [rk_lp]; exact (e_law25_ArchiverParts_2 p hs).trans ih) h0

def S_law25_ArchiverParts (x0 : List Int) (x1 : Int) : Option (Bool) :=
  Option.bind (S_law25_awake) fun r1 =>
  if r1 then
    Option.bind (S_draw_New x0 200) fun r5 =>
    Option.bind (remS (IntKind.wrap .i64 x1) 64) fun q8 =>
    Option.bind (S_make_Bounds r5 (IntKind.wrap .i64 (1 + q8))) fun r10 =>
    Option.bind (S_archiver_New (IntKind.wrap .i64 (1 + q8)) r10.1) fun r13 =>
    W_law25_ArchiverParts_2 (IntKind.wrap .i64 (1 + q8)) r13.2 r13.1 (0, 0)
  else
    some false

theorem e_law25_ArchiverParts_top {x0 : List Int} {x1 : Int} {o : Bool} (h : S_law25_ArchiverParts x0 x1 = some o) :
    rk (tabOf p) f_law25_ArchiverParts 0 [] (X (tabOf p) c_law25_ArchiverParts ⟨[(0, .p (.sl 1 (List.map (r_i .u8) x0))), (1, .p (.i .u8 x1))], []⟩) = d_law25_ArchiverParts o := by
  unfold S_law25_ArchiverParts at h
  obtain ⟨r1, h2, h⟩ := Option.bind_eq_some_iff.1 h
  have f3 : ∀ ws new s, (callR2 (AF (tabOf p)) i_law25_awake ([], ws) 0 new).run s = some ⟨.p (.b r1), ws⟩ := callR2_plain rfl (e_law25_awake p h2) rfl
  try simp only [Nf] at f3
  rcases ite_inv h with ⟨h4, h⟩ | ⟨h4, h⟩
  · obtain ⟨r5, h6, h⟩ := Option.bind_eq_some_iff.1 h
    have f7 : ∀ ws new s, (callR2 (AF (tabOf p)) i_draw_New ([.p (.sl 1 (List.map (r_i .u8) x0)), .p (.i .i64 200)], ws) 1 new).run s = some ⟨.ptr new 0, ws ++ [(new, .box (List.map AV.p (e_pagemenddraw_Codes r5)))]⟩ := callR2_new rfl (e_draw_New p h6) (all_plain_mapp _)
    try simp only [Nf] at f7
    obtain ⟨q8, h9, h⟩ := Option.bind_eq_some_iff.1 h
    obtain ⟨r10, h11, h⟩ := Option.bind_eq_some_iff.1 h
    have f12 : ∀ ws new s, (getB ws 0).run s = some (.box (List.map AV.p (e_pagemenddraw_Codes r5))) → (callR2 (AF (tabOf p)) i_make_Bounds ([.ptr 0 0, .p (.i .i64 (IntKind.wrap .i64 (1 + q8)))], ws) 0 new).run s = some ⟨.p (.sl 1 (List.map (r_i .i64) r10.1)), ws ++ [(0, .box (List.map AV.p (e_pagemenddraw_Codes r10.2)))]⟩ := callR2_ptr (args := [.p (.i .i64 (IntKind.wrap .i64 (1 + q8)))]) rfl (all_plain_mapp _) (e_make_Bounds p h11) rfl (all_plain_mapp _)
    try simp only [Nf] at f12
    obtain ⟨r13, h14, h⟩ := Option.bind_eq_some_iff.1 h
    have f15 : ∀ ws new s, (callR2 (AF (tabOf p)) i_archiver_New ([.p (.i .i64 (IntKind.wrap .i64 (1 + q8))), .p (.sl 1 (List.map (r_i .i64) r10.1))], ws) 0 new).run s = some ⟨.tup [.data (e_api_Archive r13.1), .p (.i .i64 r13.2)], ws⟩ := callR2_plain rfl (e_archiver_New p h14) rfl
    try simp only [Nf] at f15
    simp only [↓Da1, ↓Da2, ↓Da3, Ua1, Ua2, Ua3, Ua4, Ua5, Ua6, Ua7, Ua8, Ua9, Ua10, c_law25_ArchiverParts, B_api_Archive, B_pagemenddraw_Codes, B_api_File, f3, h4, f7, h9, f12, f15, ↓reduceIte, Nat.reduceEqDiff, Nat.reduceAdd, Nat.reduceLT, Nat.reduceMul]
    have e0 := e_law25_ArchiverParts_2_w p (B0 := .box (List.map AV.p (e_pagemenddraw_Codes r10.2))) h
    exact e0
  · obtain rfl := Option.some.inj h
    simp only [↓Da1, ↓Da2, ↓Da3, Ua1, Ua2, Ua3, Ua4, Ua5, Ua6, Ua7, Ua8, Ua9, Ua10, c_law25_ArchiverParts, B_api_Archive, B_pagemenddraw_Codes, B_api_File, f3, h4, z_law25_ArchiverParts, ↓reduceIte, Nat.reduceEqDiff, Nat.reduceAdd, Nat.reduceLT, Nat.reduceMul]
    rfl


theorem e_law25_ArchiverParts {x0 : List Int} {x1 : Int} {o : Bool} (h : S_law25_ArchiverParts x0 x1 = some o) : AF (tabOf p) i_law25_ArchiverParts [.p (.sl 1 (List.map (r_i .u8) x0)), .p (.i .u8 x1)] [] = d_law25_ArchiverParts o :=
  (AF_rk (tabOf p) (t_law25_ArchiverParts p) rfl).trans (e_law25_ArchiverParts_top p h)


end
end Go.Am
