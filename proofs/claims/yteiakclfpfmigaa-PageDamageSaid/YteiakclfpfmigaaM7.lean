/-
  Parts of a proof: YteiakclfpfmigaaS2, YteiakclfpfmigaaS3, YteiakclfpfmigaaS4.
-/
import Derived.Test.YteiakclfpfmigaaM6
set_option linter.unusedSimpArgs false
set_option linter.unusedVariables false

section
namespace Go.Am
set_option maxRecDepth 8000
set_option maxHeartbeats 4000000
set_option linter.unusedSimpArgs false
set_option linter.unusedVariables false

noncomputable section
variable (p : FuncId → Option (List AV → List Blk → Option Res))

/-! (*pagemend/pagemenddraw.Codes).Cell -/

def d_draw_Codes_Cell  (r : T_api_Cell × T_pagemenddraw_Codes) : Option Res := some (.data (e_api_Cell r.1), [.box (List.map AV.p (e_pagemenddraw_Codes r.2))])

def S_draw_Codes_Cell (b0 : T_pagemenddraw_Codes) : Option (T_api_Cell × T_pagemenddraw_Codes) :=
  Option.bind (S_draw_Codes_Next b0 3) fun r1 =>
  if ((r1.1 : Int) == 0) then
    some ((⟨false, ([] : List UInt8)⟩ : T_api_Cell), r1.2)
  else
    Option.bind (S_draw_Codes_Data r1.2) fun r5 =>
    Option.bind (slcS r5.1 none (some (minI ((List.length r5.1 : Nat) : Int) 12))) fun m8 =>
    some ((⟨true, m8⟩ : T_api_Cell), r5.2)

theorem e_draw_Codes_Cell_top {b0 : T_pagemenddraw_Codes} {o : T_api_Cell × T_pagemenddraw_Codes} (h : S_draw_Codes_Cell b0 = some o) :
    rk (tabOf p) f_draw_Codes_Cell 1 [] (X (tabOf p) c_draw_Codes_Cell ⟨[(0, .ptr 0 0)], [.box (List.map AV.p (e_pagemenddraw_Codes b0))]⟩) = d_draw_Codes_Cell o := by
  unfold S_draw_Codes_Cell at h
  obtain ⟨r1, h2, h⟩ := bi h
  have f3 : ∀ ws new s, boxesAt ws s [0] [List.map AV.p (e_pagemenddraw_Codes b0)] → (callR2 (AF (tabOf p)) i_draw_Codes_Next ([.ptr 0 0, .p (.i .i64 3)], ws) 0 new).run s = some ⟨.p (.i .i64 r1.1), ws ++ [(0, .box (List.map AV.p (e_pagemenddraw_Codes r1.2)))]⟩ := callR2_ptrs (args' := [.ptr 0 0, .p (.i .i64 3)]) (bs := [0]) (css := [List.map AV.p (e_pagemenddraw_Codes b0)]) (css' := [List.map AV.p (e_pagemenddraw_Codes r1.2)]) rfl rfl rfl (by simp [allPlain, all_plain_mapp]) (e_draw_Codes_Next p h2) rfl rfl (by simp [allPlain, all_plain_mapp])
  try simp only [Nf] at f3
  try simp only [↓Da, Ua, c_draw_Codes_Cell, B_api_Cell, B_pagemenddraw_Codes, *, ↓reduceIte, Nat.reduceEqDiff, Nat.reduceAdd, Nat.reduceLT, Nat.reduceMul]
  rcases ite_inv h with ⟨h4, h⟩ | ⟨h4, h⟩
  · obtain rfl := sj h
    try simp only [↓Da, Ua, c_draw_Codes_Cell, B_api_Cell, B_pagemenddraw_Codes, z_draw_Codes_Cell, *, ↓reduceIte, Nat.reduceEqDiff, Nat.reduceAdd, Nat.reduceLT, Nat.reduceMul]
    rfl
  · obtain ⟨r5, h6, h⟩ := bi h
    have f7 : ∀ ws new s, boxesAt ws s [0] [List.map AV.p (e_pagemenddraw_Codes r1.2)] → (callR2 (AF (tabOf p)) i_draw_Codes_Data ([.ptr 0 0], ws) 0 new).run s = some ⟨.p (.s r5.1), ws ++ [(0, .box (List.map AV.p (e_pagemenddraw_Codes r5.2)))]⟩ := callR2_ptrs (args' := [.ptr 0 0]) (bs := [0]) (css := [List.map AV.p (e_pagemenddraw_Codes r1.2)]) (css' := [List.map AV.p (e_pagemenddraw_Codes r5.2)]) rfl rfl rfl (by simp [allPlain, all_plain_mapp]) (e_draw_Codes_Data p h6) rfl rfl (by simp [allPlain, all_plain_mapp])
    try simp only [Nf] at f7
    obtain ⟨m8, h9, h⟩ := bi h
    have f10 : sliceS (.p (.s r5.1)) none (some (.p (.i .i64 (minI ((List.length r5.1 : Nat) : Int) 12)))) = some (.p (.s m8)) := sliceS_ok (k := .i64) (lo := none) (hi := (some (minI ((List.length r5.1 : Nat) : Int) 12))) h9
    try simp only [Nf] at f10
    obtain rfl := sj h
    try simp only [↓Da, Ua, c_draw_Codes_Cell, B_api_Cell, B_pagemenddraw_Codes, z_draw_Codes_Cell, *, ↓reduceIte, Nat.reduceEqDiff, Nat.reduceAdd, Nat.reduceLT, Nat.reduceMul]
    rfl


theorem e_draw_Codes_Cell {b0 : T_pagemenddraw_Codes} {o : T_api_Cell × T_pagemenddraw_Codes} (h : S_draw_Codes_Cell b0 = some o) : AF (tabOf p) i_draw_Codes_Cell [.ptr 0 0] [.box (List.map AV.p (e_pagemenddraw_Codes b0))] = d_draw_Codes_Cell o :=
  (AF_rk (tabOf p) (t_draw_Codes_Cell p) rfl).trans (e_draw_Codes_Cell_top p h)

/-! pagemend/page.cells -/

def d_page_cells  (r : Bool) : Option Res := some (.p (.b r), [])

def d_page_cells_0 (x6 : Vector T_api_Cell 16) (b0 : T_api_Page) (o : (Int) ⊕ (Bool)) : Option Res := match o with
  | .inl s => rk (tabOf p) f_page_cells 0 [.bl 0, .td 1 [2], .sq (.keep [] c_page_cells_1)] (X (tabOf p) (.lp 1 [1, 6, 7] c_page_cells_0) ⟨[(1, .ptr 0 0), (6, .data ((e_ar e_api_Cell) x6)), (7, .p (.i .i64 s))], [.box (List.map AV.p (e_api_Page b0))]⟩)
  | .inr o => d_page_cells o

def S_page_cells_1  : Option (Bool) :=
  some true

theorem e_page_cells_1 {B0 : List PV} {o : Bool} (h : S_page_cells_1 = some o) :
    rk (tabOf p) f_page_cells 0 [] (X (tabOf p) c_page_cells_1 ⟨[], [.box (List.map AV.p B0)]⟩) = d_page_cells o := by
  unfold S_page_cells_1 at h
  obtain rfl := sj h
  try simp only [↓Da, Ua, c_page_cells_1, z_page_cells, ↓reduceIte, Nat.reduceEqDiff, Nat.reduceAdd, Nat.reduceLT, Nat.reduceMul]
  rfl


def S_page_cells_0 (x6 : Vector T_api_Cell 16) (b0 : T_api_Page) (x7 : Int) : Option (((Int) ⊕ (Bool))) :=
  if (decide (x7 < 16)) then
    Option.bind (vget x6 x7) fun y2 =>
    if (decide (((List.length y2.Data : Nat) : Int) > 12)) then
      some (.inr false)
    else
      if y2.Set then
        if ((b0.LSN : Int) == 0) then
          some (.inr false)
        else
          some (.inl (IntKind.wrap .i64 (x7 + 1)))
      else
        if (y2.Data == []) then
          some (.inl (IntKind.wrap .i64 (x7 + 1)))
        else
          some (.inr false)
  else
    Option.map (fun o => .inr o) (S_page_cells_1)

theorem e_page_cells_0 {x6 : Vector T_api_Cell 16} {b0 : T_api_Page} {x7 : Int} {o : ((Int) ⊕ (Bool))} (h : S_page_cells_0 x6 b0 x7 = some o) :
    rk (tabOf p) f_page_cells 0 [.lo 1 [1, 6, 7] c_page_cells_0, .bl 0, .td 1 [2], .sq (.keep [] c_page_cells_1)] (X (tabOf p) c_page_cells_0 ⟨[(1, .ptr 0 0), (6, .data ((e_ar e_api_Cell) x6)), (7, .p (.i .i64 x7))], [.box (List.map AV.p (e_api_Page b0))]⟩) = (d_page_cells_0 p x6 b0) o := by
  unfold S_page_cells_0 at h
  rcases ite_inv h with ⟨h1, h⟩ | ⟨h1, h⟩
  · obtain ⟨y2, h3, h⟩ := bi h
    have f4 : (0 ≤ (x7 : Int) ∧ (x7 : Int) < ((16 : Nat) : Int)) = True := eq_true (vget_iff h3).1
    have f5 : sub (e_ar e_api_Cell x6) (Int.toNat x7 * 2) 2 = some (e_api_Cell y2) := ar_sub len_api_Cell (vget_iff h3).2
    try simp only [Nf] at f5
    try simp only [↓Da, Ua, c_page_cells_0, B_api_Cell, B_ar_eareapiCell16, B_api_Page, *, ↓reduceIte, Nat.reduceEqDiff, Nat.reduceAdd, Nat.reduceLT, Nat.reduceMul]
    rcases ite_inv h with ⟨h6, h⟩ | ⟨h6, h⟩
    · obtain rfl := sj h
      try simp only [↓Da, Ua, c_page_cells_0, B_api_Cell, B_ar_eareapiCell16, B_api_Page, z_page_cells, *, ↓reduceIte, Nat.reduceEqDiff, Nat.reduceAdd, Nat.reduceLT, Nat.reduceMul]
      rfl
    · try simp only [↓Da, Ua, c_page_cells_0, B_api_Cell, B_ar_eareapiCell16, B_api_Page, *, ↓reduceIte, Nat.reduceEqDiff, Nat.reduceAdd, Nat.reduceLT, Nat.reduceMul]
      rcases ite_inv h with ⟨h7, h⟩ | ⟨h7, h⟩
      · try simp only [↓Da, Ua, c_page_cells_0, B_api_Cell, B_ar_eareapiCell16, B_api_Page, *, ↓reduceIte, Nat.reduceEqDiff, Nat.reduceAdd, Nat.reduceLT, Nat.reduceMul]
        rcases ite_inv h with ⟨h8, h⟩ | ⟨h8, h⟩
        · obtain rfl := sj h
          try simp only [↓Da, Ua, c_page_cells_0, B_api_Cell, B_ar_eareapiCell16, B_api_Page, z_page_cells, *, ↓reduceIte, Nat.reduceEqDiff, Nat.reduceAdd, Nat.reduceLT, Nat.reduceMul]
          rfl
        · obtain rfl := sj h
          try simp only [↓Da, Ua, c_page_cells_0, B_api_Cell, B_ar_eareapiCell16, B_api_Page, *, ↓reduceIte, Nat.reduceEqDiff, Nat.reduceAdd, Nat.reduceLT, Nat.reduceMul]
          rfl
      · try simp only [↓Da, Ua, c_page_cells_0, B_api_Cell, B_ar_eareapiCell16, B_api_Page, *, ↓reduceIte, Nat.reduceEqDiff, Nat.reduceAdd, Nat.reduceLT, Nat.reduceMul]
        rcases ite_inv h with ⟨h9, h⟩ | ⟨h9, h⟩
        · obtain rfl := sj h
          try simp only [↓Da, Ua, c_page_cells_0, B_api_Cell, B_ar_eareapiCell16, B_api_Page, *, ↓reduceIte, Nat.reduceEqDiff, Nat.reduceAdd, Nat.reduceLT, Nat.reduceMul]
          rfl
        · obtain rfl := sj h
          try simp only [↓Da, Ua, c_page_cells_0, B_api_Cell, B_ar_eareapiCell16, B_api_Page, z_page_cells, *, ↓reduceIte, Nat.reduceEqDiff, Nat.reduceAdd, Nat.reduceLT, Nat.reduceMul]
          rfl
  · obtain ⟨o', h', rfl⟩ := mi h
    try simp only [↓Da, Ua, c_page_cells_0, B_api_Cell, B_ar_eareapiCell16, B_api_Page, *, ↓reduceIte, Nat.reduceEqDiff, Nat.reduceAdd, Nat.reduceLT, Nat.reduceMul]
    have e0 := e_page_cells_1 p (B0 := (e_api_Page b0)) h'
    exact e0


def W_page_cells_0 (x6 : Vector T_api_Cell 16) (b0 : T_api_Page) (s : Int) : Option (Bool) :=
  whileO (fun s => S_page_cells_0 x6 b0 s) s

theorem e_page_cells_0_w {x6 : Vector T_api_Cell 16} {b0 : T_api_Page} {s : Int} {o : Bool} (h : W_page_cells_0 x6 b0 s = some o) :
    rk (tabOf p) f_page_cells 0 [.bl 0, .td 1 [2], .sq (.keep [] c_page_cells_1)] (X (tabOf p) (.lp 1 [1, 6, 7] c_page_cells_0) ⟨[(1, .ptr 0 0), (6, .data ((e_ar e_api_Cell) x6)), (7, .p (.i .i64 s))], [.box (List.map AV.p (e_api_Page b0))]⟩) = d_page_cells o := by
  have h0 : whileO (fun s => S_page_cells_0 x6 b0 s) s = some o := h
  exact while_ind (P := fun (s : Int) (o : Bool) => rk (tabOf p) f_page_cells 0 [.bl 0, .td 1 [2], .sq (.keep [] c_page_cells_1)] (X (tabOf p) (.lp 1 [1, 6, 7] c_page_cells_0) ⟨[(1, .ptr 0 0), (6, .data ((e_ar e_api_Cell) x6)), (7, .p (.i .i64 s))], [.box (List.map AV.p (e_api_Page b0))]⟩) = d_page_cells o) (fun s r hs => by rw [rk_lp]; exact e_page_cells_0 p hs) (fun s s1 r hs ih => by rw [rk_lp]; exact (e_page_cells_0 p hs).trans ih) h0

def S_page_cells (x0 : T_api_Page) : Option (Bool) :=
  W_page_cells_0 x0.Cells x0 0

theorem e_page_cells_top {x0 : T_api_Page} {o : Bool} (h : S_page_cells x0 = some o) :
    rk (tabOf p) f_page_cells 0 [] (X (tabOf p) c_page_cells ⟨[(0, .data (e_api_Page x0))], []⟩) = d_page_cells o := by
  unfold S_page_cells at h
  try simp only [↓Da, Ua, c_page_cells, B_api_Cell, B_ar_eareapiCell16, B_api_Page, ↓reduceIte, Nat.reduceEqDiff, Nat.reduceAdd, Nat.reduceLT, Nat.reduceMul]
  have e0 := e_page_cells_0_w p h
  exact e0


theorem e_page_cells {x0 : T_api_Page} {o : Bool} (h : S_page_cells x0 = some o) : AF (tabOf p) i_page_cells [.data (e_api_Page x0)] [] = d_page_cells o :=
  (AF_rk (tabOf p) (t_page_cells p) rfl).trans (e_page_cells_top p h)

theorem q_page_cells {x0 : T_api_Page} {o : Bool} (h : S_page_cells x0 = some o) : ∀ ws new st, (callR2 (AF (tabOf p)) i_page_cells ([.data (e_api_Page x0)], ws) 0 new).run st = some ⟨.p (.b o), ws⟩ := callR2_plain rfl (e_page_cells p h) rfl

/-! strings.Repeat -/

def d_strings_Repeat (r : List UInt8) : Option Res := some (.p (.s r), [])

def S_strings_Repeat (x0 : List UInt8) (x1 : Int) : Option (List UInt8) := repS x0 x1

theorem e_strings_Repeat {x0 : List UInt8} {x1 : Int} {o : List UInt8} (h : S_strings_Repeat x0 x1 = some o) : AF (tabOf p) i_strings_Repeat [.p (.s x0), .p (.i .i64 x1)] [] = d_strings_Repeat o := by
  rw [AF_prim (t_strings_Repeat p)]
  have h' : repS x0 x1 = some o := h
  simp only [repP, h', Option.map_some, d_strings_Repeat]

theorem q_strings_Repeat {x0 : List UInt8} {x1 : Int} {o : List UInt8} (h : S_strings_Repeat x0 x1 = some o) : ∀ ws new st, (callR2 (AF (tabOf p)) i_strings_Repeat ([.p (.s x0), .p (.i .i64 x1)], ws) 0 new).run st = some ⟨.p (.s o), ws⟩ := callR2_plain rfl (e_strings_Repeat p h) rfl

/-! pagemend/pagemendref02.numbers -/

def d_ref02_numbers  (r : Bool) : Option Res := some (.p (.b r), [])

def S_ref02_numbers (x0 : T_api_Page) : Option (Bool) :=
  if (decide (x0.ID ≥ 0)) then
    if (decide (x0.ID < 64)) then
      if (decide (x0.LSN ≥ 0)) then
        some (decide (x0.LSN ≤ 1099511627776))
      else
        some false
    else
      some false
  else
    some false

theorem e_ref02_numbers_top {x0 : T_api_Page} {o : Bool} (h : S_ref02_numbers x0 = some o) :
    rk (tabOf p) f_ref02_numbers 0 [] (X (tabOf p) c_ref02_numbers ⟨[(0, .data (e_api_Page x0))], []⟩) = d_ref02_numbers o := by
  unfold S_ref02_numbers at h
  rcases ite_inv h with ⟨h1, h⟩ | ⟨h1, h⟩
  · try simp only [↓Da, Ua, c_ref02_numbers, B_api_Cell, B_ar_eareapiCell16, B_api_Page, *, ↓reduceIte, Nat.reduceEqDiff, Nat.reduceAdd, Nat.reduceLT, Nat.reduceMul]
    rcases ite_inv h with ⟨h2, h⟩ | ⟨h2, h⟩
    · try simp only [↓Da, Ua, c_ref02_numbers, B_api_Cell, B_ar_eareapiCell16, B_api_Page, *, ↓reduceIte, Nat.reduceEqDiff, Nat.reduceAdd, Nat.reduceLT, Nat.reduceMul]
      rcases ite_inv h with ⟨h3, h⟩ | ⟨h3, h⟩
      · obtain rfl := sj h
        try simp only [↓Da, Ua, c_ref02_numbers, B_api_Cell, B_ar_eareapiCell16, B_api_Page, z_ref02_numbers, *, ↓reduceIte, Nat.reduceEqDiff, Nat.reduceAdd, Nat.reduceLT, Nat.reduceMul]
        rfl
      · obtain rfl := sj h
        try simp only [↓Da, Ua, c_ref02_numbers, B_api_Cell, B_ar_eareapiCell16, B_api_Page, z_ref02_numbers, *, ↓reduceIte, Nat.reduceEqDiff, Nat.reduceAdd, Nat.reduceLT, Nat.reduceMul]
        rfl
    · obtain rfl := sj h
      try simp only [↓Da, Ua, c_ref02_numbers, B_api_Cell, B_ar_eareapiCell16, B_api_Page, z_ref02_numbers, *, ↓reduceIte, Nat.reduceEqDiff, Nat.reduceAdd, Nat.reduceLT, Nat.reduceMul]
      rfl
  · obtain rfl := sj h
    try simp only [↓Da, Ua, c_ref02_numbers, B_api_Cell, B_ar_eareapiCell16, B_api_Page, z_ref02_numbers, *, ↓reduceIte, Nat.reduceEqDiff, Nat.reduceAdd, Nat.reduceLT, Nat.reduceMul]
    rfl


theorem e_ref02_numbers {x0 : T_api_Page} {o : Bool} (h : S_ref02_numbers x0 = some o) : AF (tabOf p) i_ref02_numbers [.data (e_api_Page x0)] [] = d_ref02_numbers o :=
  (AF_rk (tabOf p) (t_ref02_numbers p) rfl).trans (e_ref02_numbers_top p h)

theorem q_ref02_numbers {x0 : T_api_Page} {o : Bool} (h : S_ref02_numbers x0 = some o) : ∀ ws new st, (callR2 (AF (tabOf p)) i_ref02_numbers ([.data (e_api_Page x0)], ws) 0 new).run st = some ⟨.p (.b o), ws⟩ := callR2_plain rfl (e_ref02_numbers p h) rfl

/-! pagemend/pagemendref02.zeros -/

def d_ref02_zeros  (r : (List UInt8)) : Option Res := some (.p (.s r), [])

def S_ref02_zeros (x0 : Int) : Option ((List UInt8)) :=
  Option.bind (mkS 1 x0 x0 0) fun m1 =>
  some (toStr m1)

theorem e_ref02_zeros_top {x0 : Int} {o : (List UInt8)} (h : S_ref02_zeros x0 = some o) :
    rk (tabOf p) f_ref02_zeros 0 [] (X (tabOf p) c_ref02_zeros ⟨[(0, .p (.i .i64 x0))], []⟩) = d_ref02_zeros o := by
  unfold S_ref02_zeros at h
  obtain ⟨m1, h2, h⟩ := bi h
  have f3 : (0 ≤ (x0 : Int) ∧ (x0 : Int) ≤ x0 ∧ ((1 : Nat) : Int) * x0 ≤ 281474976710656 ∧ (x0 : Int) ≤ 281474976710656) = True := eq_true (mkS_iff h2).1
  have f4 : List.replicate (Int.toNat x0) ((r_i .u8) 0) = List.map (r_i .u8) m1 := by rw [(mkS_iff h2).2, List.map_replicate]
  try simp only [Nf] at f4
  obtain rfl := sj h
  try simp only [↓Da, Ua, c_ref02_zeros, z_ref02_zeros, *, ↓reduceIte, Nat.reduceEqDiff, Nat.reduceAdd, Nat.reduceLT, Nat.reduceMul]
  rfl


theorem e_ref02_zeros {x0 : Int} {o : (List UInt8)} (h : S_ref02_zeros x0 = some o) : AF (tabOf p) i_ref02_zeros [.p (.i .i64 x0)] [] = d_ref02_zeros o :=
  (AF_rk (tabOf p) (t_ref02_zeros p) rfl).trans (e_ref02_zeros_top p h)

theorem q_ref02_zeros {x0 : Int} {o : (List UInt8)} (h : S_ref02_zeros x0 = some o) : ∀ ws new st, (callR2 (AF (tabOf p)) i_ref02_zeros ([.p (.i .i64 x0)], ws) 0 new).run st = some ⟨.p (.s o), ws⟩ := callR2_plain rfl (e_ref02_zeros p h) rfl

/-! pagemend/pagemendref01.Sum -/

def d_ref01_Sum  (r : Int) : Option Res := some (.p (.i .u32 r), [])

def d_ref01_Sum_3 (x0 : List UInt8) (o : (Int × Int) ⊕ (Int)) : Option Res := match o with
  | .inl s => rk (tabOf p) f_ref01_Sum 0 [.bl 0, .sq (.keep [3] c_ref01_Sum_4)] (X (tabOf p) (.lp 0 [0, 3, 4] c_ref01_Sum_3) ⟨[(0, .p (.s x0)), (3, .p (.i .u32 s.1)), (4, .p (.i .i64 s.2))], []⟩)
  | .inr o => d_ref01_Sum o

def d_ref01_Sum_1 (x0 : List UInt8) (x4 : Int) (o : (Int × Int) ⊕ (((Int × Int) ⊕ (Int)))) : Option Res := match o with
  | .inl s => rk (tabOf p) f_ref01_Sum 0 [.bl 2, .bl 1, .sq (.keep [0, 3, 4] c_ref01_Sum_2), .lo 0 [0, 3, 4] c_ref01_Sum_3, .bl 0, .sq (.keep [3] c_ref01_Sum_4)] (X (tabOf p) (.lp 0 [0, 3, 4, 5] c_ref01_Sum_1) ⟨[(0, .p (.s x0)), (3, .p (.i .u32 s.1)), (4, .p (.i .i64 x4)), (5, .p (.i .i64 s.2))], []⟩)
  | .inr o => (d_ref01_Sum_3 p x0) o

def S_ref01_Sum_0 (x0 : List UInt8) (x3 : Int) (x4 : Int) (x5 : Int) : Option (((Int × Int) ⊕ (((Int × Int) ⊕ (Int))))) :=
  some (.inl (x3, (IntKind.wrap .i64 (x5 + 1))))

theorem e_ref01_Sum_0 {x0 : List UInt8} {x3 : Int} {x4 : Int} {x5 : Int} {o : ((Int × Int) ⊕ (((Int × Int) ⊕ (Int))))} (h : S_ref01_Sum_0 x0 x3 x4 x5 = some o) :
    rk (tabOf p) f_ref01_Sum 0 [.lo 0 [0, 3, 4, 5] c_ref01_Sum_1, .bl 2, .bl 1, .sq (.keep [0, 3, 4] c_ref01_Sum_2), .lo 0 [0, 3, 4] c_ref01_Sum_3, .bl 0, .sq (.keep [3] c_ref01_Sum_4)] (X (tabOf p) c_ref01_Sum_0 ⟨[(0, .p (.s x0)), (3, .p (.i .u32 x3)), (4, .p (.i .i64 x4)), (5, .p (.i .i64 x5))], []⟩) = (d_ref01_Sum_1 p x0 x4) o := by
  unfold S_ref01_Sum_0 at h
  obtain rfl := sj h
  try simp only [↓Da, Ua, c_ref01_Sum_0, ↓reduceIte, Nat.reduceEqDiff, Nat.reduceAdd, Nat.reduceLT, Nat.reduceMul]
  rfl


def S_ref01_Sum_2 (x0 : List UInt8) (x3 : Int) (x4 : Int) : Option (((Int × Int) ⊕ (Int))) :=
  some (.inl (x3, (IntKind.wrap .i64 (x4 + 1))))

theorem e_ref01_Sum_2 {x0 : List UInt8} {x3 : Int} {x4 : Int} {o : ((Int × Int) ⊕ (Int))} (h : S_ref01_Sum_2 x0 x3 x4 = some o) :
    rk (tabOf p) f_ref01_Sum 0 [.lo 0 [0, 3, 4] c_ref01_Sum_3, .bl 0, .sq (.keep [3] c_ref01_Sum_4)] (X (tabOf p) c_ref01_Sum_2 ⟨[(0, .p (.s x0)), (3, .p (.i .u32 x3)), (4, .p (.i .i64 x4))], []⟩) = (d_ref01_Sum_3 p x0) o := by
  unfold S_ref01_Sum_2 at h
  obtain rfl := sj h
  try simp only [↓Da, Ua, c_ref01_Sum_2, ↓reduceIte, Nat.reduceEqDiff, Nat.reduceAdd, Nat.reduceLT, Nat.reduceMul]
  rfl


def S_ref01_Sum_1 (x0 : List UInt8) (x4 : Int) (x3 : Int) (x5 : Int) : Option (((Int × Int) ⊕ (((Int × Int) ⊕ (Int))))) :=
  if (decide (x5 < 8)) then
    if (((andI .u32 x3 1) : Int) == 1) then
      Option.bind (shrS .u32 x3 1) fun q3 =>
      S_ref01_Sum_0 x0 (xorI .u32 q3 2197175160) x4 x5
    else
      Option.bind (shrS .u32 x3 1) fun q5 =>
      S_ref01_Sum_0 x0 q5 x4 x5
  else
    Option.map (fun o => .inr o) (S_ref01_Sum_2 x0 x3 x4)

theorem e_ref01_Sum_1 {x0 : List UInt8} {x4 : Int} {x3 : Int} {x5 : Int} {o : ((Int × Int) ⊕ (((Int × Int) ⊕ (Int))))} (h : S_ref01_Sum_1 x0 x4 x3 x5 = some o) :
    rk (tabOf p) f_ref01_Sum 0 [.lo 0 [0, 3, 4, 5] c_ref01_Sum_1, .bl 2, .bl 1, .sq (.keep [0, 3, 4] c_ref01_Sum_2), .lo 0 [0, 3, 4] c_ref01_Sum_3, .bl 0, .sq (.keep [3] c_ref01_Sum_4)] (X (tabOf p) c_ref01_Sum_1 ⟨[(0, .p (.s x0)), (3, .p (.i .u32 x3)), (4, .p (.i .i64 x4)), (5, .p (.i .i64 x5))], []⟩) = (d_ref01_Sum_1 p x0 x4) o := by
  unfold S_ref01_Sum_1 at h
  rcases ite_inv h with ⟨h1, h⟩ | ⟨h1, h⟩
  · try simp only [↓Da, Ua, c_ref01_Sum_1, *, ↓reduceIte, Nat.reduceEqDiff, Nat.reduceAdd, Nat.reduceLT, Nat.reduceMul]
    rcases ite_inv h with ⟨h2, h⟩ | ⟨h2, h⟩
    · obtain ⟨q3, h4, h⟩ := bi h
      try simp only [↓Da, Ua, c_ref01_Sum_1, *, ↓reduceIte, Nat.reduceEqDiff, Nat.reduceAdd, Nat.reduceLT, Nat.reduceMul]
      have e0 := e_ref01_Sum_0 p h
      exact e0
    · obtain ⟨q5, h6, h⟩ := bi h
      try simp only [↓Da, Ua, c_ref01_Sum_1, *, ↓reduceIte, Nat.reduceEqDiff, Nat.reduceAdd, Nat.reduceLT, Nat.reduceMul]
      have e0 := e_ref01_Sum_0 p h
      exact e0
  · obtain ⟨o', h', rfl⟩ := mi h
    try simp only [↓Da, Ua, c_ref01_Sum_1, *, ↓reduceIte, Nat.reduceEqDiff, Nat.reduceAdd, Nat.reduceLT, Nat.reduceMul]
    have e0 := e_ref01_Sum_2 p h'
    exact e0


def W_ref01_Sum_1 (x0 : List UInt8) (x4 : Int) (s : Int × Int) : Option (((Int × Int) ⊕ (Int))) :=
  whileO (fun s => S_ref01_Sum_1 x0 x4 s.1 s.2) s

theorem e_ref01_Sum_1_w {x0 : List UInt8} {x4 : Int} {s : Int × Int} {o : ((Int × Int) ⊕ (Int))} (h : W_ref01_Sum_1 x0 x4 s = some o) :
    rk (tabOf p) f_ref01_Sum 0 [.bl 2, .bl 1, .sq (.keep [0, 3, 4] c_ref01_Sum_2), .lo 0 [0, 3, 4] c_ref01_Sum_3, .bl 0, .sq (.keep [3] c_ref01_Sum_4)] (X (tabOf p) (.lp 0 [0, 3, 4, 5] c_ref01_Sum_1) ⟨[(0, .p (.s x0)), (3, .p (.i .u32 s.1)), (4, .p (.i .i64 x4)), (5, .p (.i .i64 s.2))], []⟩) = (d_ref01_Sum_3 p x0) o := by
  have h0 : whileO (fun s => S_ref01_Sum_1 x0 x4 s.1 s.2) s = some o := h
  exact while_ind (P := fun (s : Int × Int) (o : ((Int × Int) ⊕ (Int))) => rk (tabOf p) f_ref01_Sum 0 [.bl 2, .bl 1, .sq (.keep [0, 3, 4] c_ref01_Sum_2), .lo 0 [0, 3, 4] c_ref01_Sum_3, .bl 0, .sq (.keep [3] c_ref01_Sum_4)] (X (tabOf p) (.lp 0 [0, 3, 4, 5] c_ref01_Sum_1) ⟨[(0, .p (.s x0)), (3, .p (.i .u32 s.1)), (4, .p (.i .i64 x4)), (5, .p (.i .i64 s.2))], []⟩) = (d_ref01_Sum_3 p x0) o) (fun s r hs => by rw [rk_lp]; exact e_ref01_Sum_1 p hs) (fun s s1 r hs ih => by rw [rk_lp]; exact (e_ref01_Sum_1 p hs).trans ih) h0

def S_ref01_Sum_4 (x3 : Int) : Option (Int) :=
  some (notI .u32 x3)

theorem e_ref01_Sum_4 {x3 : Int} {o : Int} (h : S_ref01_Sum_4 x3 = some o) :
    rk (tabOf p) f_ref01_Sum 0 [] (X (tabOf p) c_ref01_Sum_4 ⟨[(3, .p (.i .u32 x3))], []⟩) = d_ref01_Sum o := by
  unfold S_ref01_Sum_4 at h
  obtain rfl := sj h
  try simp only [↓Da, Ua, c_ref01_Sum_4, z_ref01_Sum, ↓reduceIte, Nat.reduceEqDiff, Nat.reduceAdd, Nat.reduceLT, Nat.reduceMul]
  rfl


def S_ref01_Sum_3 (x0 : List UInt8) (x3 : Int) (x4 : Int) : Option (((Int × Int) ⊕ (Int))) :=
  if (decide (x4 < ((List.length x0 : Nat) : Int))) then
    Option.bind (sidS x0 x4) fun c2 =>
    W_ref01_Sum_1 x0 x4 ((xorI .u32 x3 (IntKind.wrap .u32 c2)), 0)
  else
    Option.map (fun o => .inr o) (S_ref01_Sum_4 x3)

theorem e_ref01_Sum_3 {x0 : List UInt8} {x3 : Int} {x4 : Int} {o : ((Int × Int) ⊕ (Int))} (h : S_ref01_Sum_3 x0 x3 x4 = some o) :
    rk (tabOf p) f_ref01_Sum 0 [.lo 0 [0, 3, 4] c_ref01_Sum_3, .bl 0, .sq (.keep [3] c_ref01_Sum_4)] (X (tabOf p) c_ref01_Sum_3 ⟨[(0, .p (.s x0)), (3, .p (.i .u32 x3)), (4, .p (.i .i64 x4))], []⟩) = (d_ref01_Sum_3 p x0) o := by
  unfold S_ref01_Sum_3 at h
  rcases ite_inv h with ⟨h1, h⟩ | ⟨h1, h⟩
  · obtain ⟨c2, h3, h⟩ := bi h
    try simp only [↓Da, Ua, c_ref01_Sum_3, *, ↓reduceIte, Nat.reduceEqDiff, Nat.reduceAdd, Nat.reduceLT, Nat.reduceMul]
    have e0 := e_ref01_Sum_1_w p h
    exact e0
  · obtain ⟨o', h', rfl⟩ := mi h
    try simp only [↓Da, Ua, c_ref01_Sum_3, *, ↓reduceIte, Nat.reduceEqDiff, Nat.reduceAdd, Nat.reduceLT, Nat.reduceMul]
    have e0 := e_ref01_Sum_4 p h'
    exact e0


def W_ref01_Sum_3 (x0 : List UInt8) (s : Int × Int) : Option (Int) :=
  whileO (fun s => S_ref01_Sum_3 x0 s.1 s.2) s

theorem e_ref01_Sum_3_w {x0 : List UInt8} {s : Int × Int} {o : Int} (h : W_ref01_Sum_3 x0 s = some o) :
    rk (tabOf p) f_ref01_Sum 0 [.bl 0, .sq (.keep [3] c_ref01_Sum_4)] (X (tabOf p) (.lp 0 [0, 3, 4] c_ref01_Sum_3) ⟨[(0, .p (.s x0)), (3, .p (.i .u32 s.1)), (4, .p (.i .i64 s.2))], []⟩) = d_ref01_Sum o := by
  have h0 : whileO (fun s => S_ref01_Sum_3 x0 s.1 s.2) s = some o := h
  exact while_ind (P := fun (s : Int × Int) (o : Int) => rk (tabOf p) f_ref01_Sum 0 [.bl 0, .sq (.keep [3] c_ref01_Sum_4)] (X (tabOf p) (.lp 0 [0, 3, 4] c_ref01_Sum_3) ⟨[(0, .p (.s x0)), (3, .p (.i .u32 s.1)), (4, .p (.i .i64 s.2))], []⟩) = d_ref01_Sum o) (fun s r hs => by rw [rk_lp]; exact e_ref01_Sum_3 p hs) (fun s s1 r hs ih => by rw [rk_lp]; exact (e_ref01_Sum_3 p hs).trans ih) h0

def S_ref01_Sum (x0 : List UInt8) : Option (Int) :=
  W_ref01_Sum_3 x0 (4294967295, 0)

theorem e_ref01_Sum_top {x0 : List UInt8} {o : Int} (h : S_ref01_Sum x0 = some o) :
    rk (tabOf p) f_ref01_Sum 0 [] (X (tabOf p) c_ref01_Sum ⟨[(0, .p (.s x0))], []⟩) = d_ref01_Sum o := by
  unfold S_ref01_Sum at h
  try simp only [↓Da, Ua, c_ref01_Sum, ↓reduceIte, Nat.reduceEqDiff, Nat.reduceAdd, Nat.reduceLT, Nat.reduceMul]
  have e0 := e_ref01_Sum_3_w p h
  exact e0


theorem e_ref01_Sum {x0 : List UInt8} {o : Int} (h : S_ref01_Sum x0 = some o) : AF (tabOf p) i_ref01_Sum [.p (.s x0)] [] = d_ref01_Sum o :=
  (AF_rk (tabOf p) (t_ref01_Sum p) rfl).trans (e_ref01_Sum_top p h)

theorem q_ref01_Sum {x0 : List UInt8} {o : Int} (h : S_ref01_Sum x0 = some o) : ∀ ws new st, (callR2 (AF (tabOf p)) i_ref01_Sum ([.p (.s x0)], ws) 0 new).run st = some ⟨.p (.i .u32 o), ws⟩ := callR2_plain rfl (e_ref01_Sum p h) rfl

/-! pagemend/pagemendref02.Seal -/

def d_ref02_Seal  (r : (List UInt8)) : Option Res := some (.p (.s r), [])

def S_ref02_Seal (x0 : List UInt8) : Option ((List UInt8)) :=
  Option.bind (S_ref01_Sum x0) fun r1 =>
  Option.bind (S_ref01_Put x0 (IntKind.wrap .i64 r1) 4) fun r4 =>
  Option.bind (slcS x0 none (some 8)) fun m7 =>
  Option.bind (catS r4 m7) fun s10 =>
  some s10

theorem e_ref02_Seal_top {x0 : List UInt8} {o : (List UInt8)} (h : S_ref02_Seal x0 = some o) :
    rk (tabOf p) f_ref02_Seal 0 [] (X (tabOf p) c_ref02_Seal ⟨[(0, .p (.s x0))], []⟩) = d_ref02_Seal o := by
  unfold S_ref02_Seal at h
  obtain ⟨r1, h2, h⟩ := bi h
  have f3 := q_ref01_Sum p h2
  try simp only [Nf] at f3
  obtain ⟨r4, h5, h⟩ := bi h
  have f6 := q_ref01_Put p h5
  try simp only [Nf] at f6
  obtain ⟨m7, h8, h⟩ := bi h
  have f9 : sliceS (.p (.s x0)) none (some (.p (.i .i64 8))) = some (.p (.s m7)) := sliceS_ok (k := .i64) (lo := none) (hi := (some 8)) h8
  try simp only [Nf] at f9
  obtain ⟨s10, h11, h⟩ := bi h
  obtain rfl := sj h
  try simp only [↓Da, Ua, c_ref02_Seal, z_ref02_Seal, *, ↓reduceIte, Nat.reduceEqDiff, Nat.reduceAdd, Nat.reduceLT, Nat.reduceMul]
  rfl


theorem e_ref02_Seal {x0 : List UInt8} {o : (List UInt8)} (h : S_ref02_Seal x0 = some o) : AF (tabOf p) i_ref02_Seal [.p (.s x0)] [] = d_ref02_Seal o :=
  (AF_rk (tabOf p) (t_ref02_Seal p) rfl).trans (e_ref02_Seal_top p h)

theorem q_ref02_Seal {x0 : List UInt8} {o : (List UInt8)} (h : S_ref02_Seal x0 = some o) : ∀ ws new st, (callR2 (AF (tabOf p)) i_ref02_Seal ([.p (.s x0)], ws) 0 new).run st = some ⟨.p (.s o), ws⟩ := callR2_plain rfl (e_ref02_Seal p h) rfl

/-! pagemend/page.number -/

def d_page_number  (r : Int) : Option Res := some (.p (.i .i64 r), [])

def S_page_number (x0 : List UInt8) (x1 : Int) (x2 : Int) : Option (Int) :=
  Option.bind (S_codec_Get x0 x1 x2) fun r1 =>
  some r1.1

theorem e_page_number_top {x0 : List UInt8} {x1 : Int} {x2 : Int} {o : Int} (h : S_page_number x0 x1 x2 = some o) :
    rk (tabOf p) f_page_number 0 [] (X (tabOf p) c_page_number ⟨[(0, .p (.s x0)), (1, .p (.i .i64 x1)), (2, .p (.i .i64 x2))], []⟩) = d_page_number o := by
  unfold S_page_number at h
  obtain ⟨r1, h2, h⟩ := bi h
  have f3 := q_codec_Get p h2
  try simp only [Nf] at f3
  obtain rfl := sj h
  try simp only [↓Da, Ua, c_page_number, z_page_number, *, ↓reduceIte, Nat.reduceEqDiff, Nat.reduceAdd, Nat.reduceLT, Nat.reduceMul]
  rfl


theorem e_page_number {x0 : List UInt8} {x1 : Int} {x2 : Int} {o : Int} (h : S_page_number x0 x1 x2 = some o) : AF (tabOf p) i_page_number [.p (.s x0), .p (.i .i64 x1), .p (.i .i64 x2)] [] = d_page_number o :=
  (AF_rk (tabOf p) (t_page_number p) rfl).trans (e_page_number_top p h)

theorem q_page_number {x0 : List UInt8} {x1 : Int} {x2 : Int} {o : Int} (h : S_page_number x0 x1 x2 = some o) : ∀ ws new st, (callR2 (AF (tabOf p)) i_page_number ([.p (.s x0), .p (.i .i64 x1), .p (.i .i64 x2)], ws) 0 new).run st = some ⟨.p (.i .i64 o), ws⟩ := callR2_plain rfl (e_page_number p h) rfl

/-! pagemend/page.read -/

def d_page_read  (r : T_api_Page × Bool) : Option Res := some (.tup [.data (e_api_Page r.1), .p (.b r.2)], [])

def d_page_read_0 (x0 : List UInt8) (b0 : T_api_Page) (o : (Int × T_api_Page) ⊕ (T_api_Page × Bool)) : Option Res := match o with
  | .inl s => rk (tabOf p) f_page_read 0 [.bl 0, .sq (.keep [2, 4] c_page_read_1)] (X (tabOf p) (.lp 2 [0, 2, 4, 13] c_page_read_0) ⟨[(0, .p (.s x0)), (2, .ptr 0 0), (4, .ptr 1 0), (13, .p (.i .i64 s.1))], [.box (List.map AV.p (e_api_Page b0)), .box (List.map AV.p (e_api_Page s.2))]⟩)
  | .inr o => d_page_read o

def S_page_read_1 (b0 : T_api_Page) (b1 : T_api_Page) : Option (T_api_Page × Bool) :=
  some (b1, true)

theorem e_page_read_1 {b0 : T_api_Page} {b1 : T_api_Page} {o : T_api_Page × Bool} (h : S_page_read_1 b0 b1 = some o) :
    rk (tabOf p) f_page_read 0 [] (X (tabOf p) c_page_read_1 ⟨[(2, .ptr 0 0), (4, .ptr 1 0)], [.box (List.map AV.p (e_api_Page b0)), .box (List.map AV.p (e_api_Page b1))]⟩) = d_page_read o := by
  unfold S_page_read_1 at h
  obtain rfl := sj h
  try simp only [↓Da, Ua, c_page_read_1, B_api_Cell, B_ar_eareapiCell16, B_api_Page, z_page_read, ↓reduceIte, Nat.reduceEqDiff, Nat.reduceAdd, Nat.reduceLT, Nat.reduceMul]
  rfl


def S_page_read_0 (x0 : List UInt8) (b0 : T_api_Page) (x13 : Int) (b1 : T_api_Page) : Option (((Int × T_api_Page) ⊕ (T_api_Page × Bool))) :=
  if (decide (x13 < 16)) then
    Option.bind (S_page_number x0 (IntKind.wrap .i64 (12 + (IntKind.wrap .i64 (x13 * 13)))) 1) fun r2 =>
    if ((r2 : Int) == 255) then
      some (.inl ((IntKind.wrap .i64 (x13 + 1)), b1))
    else
      if (decide (r2 > 12)) then
        some (.inr ((⟨0, 0, (Vector.replicate 16 (⟨false, []⟩ : T_api_Cell))⟩ : T_api_Page), false))
      else
        Option.bind (slcS x0 (some (IntKind.wrap .i64 ((IntKind.wrap .i64 (12 + (IntKind.wrap .i64 (x13 * 13)))) + 1))) (some (IntKind.wrap .i64 ((IntKind.wrap .i64 ((IntKind.wrap .i64 (12 + (IntKind.wrap .i64 (x13 * 13)))) + 1)) + r2)))) fun m7 =>
        Option.bind (inb 16 x13) fun u10 =>
        Option.bind (vget b1.Cells x13) fun y13 =>
        some (.inl ((IntKind.wrap .i64 (x13 + 1)), (⟨b1.ID, b1.LSN, (vset b1.Cells x13 (⟨true, m7⟩ : T_api_Cell))⟩ : T_api_Page)))
  else
    Option.map (fun o => .inr o) (S_page_read_1 b0 b1)

theorem e_page_read_0 {x0 : List UInt8} {b0 : T_api_Page} {x13 : Int} {b1 : T_api_Page} {o : ((Int × T_api_Page) ⊕ (T_api_Page × Bool))} (h : S_page_read_0 x0 b0 x13 b1 = some o) :
    rk (tabOf p) f_page_read 0 [.lo 2 [0, 2, 4, 13] c_page_read_0, .bl 0, .sq (.keep [2, 4] c_page_read_1)] (X (tabOf p) c_page_read_0 ⟨[(0, .p (.s x0)), (2, .ptr 0 0), (4, .ptr 1 0), (13, .p (.i .i64 x13))], [.box (List.map AV.p (e_api_Page b0)), .box (List.map AV.p (e_api_Page b1))]⟩) = (d_page_read_0 p x0 b0) o := by
  unfold S_page_read_0 at h
  rcases ite_inv h with ⟨h1, h⟩ | ⟨h1, h⟩
  · obtain ⟨r2, h3, h⟩ := bi h
    have f4 := q_page_number p h3
    try simp only [Nf] at f4
    try simp only [↓Da, Ua, c_page_read_0, B_api_Cell, B_ar_eareapiCell16, B_api_Page, *, ↓reduceIte, Nat.reduceEqDiff, Nat.reduceAdd, Nat.reduceLT, Nat.reduceMul]
    rcases ite_inv h with ⟨h5, h⟩ | ⟨h5, h⟩
    · obtain rfl := sj h
      try simp only [↓Da, Ua, c_page_read_0, B_api_Cell, B_ar_eareapiCell16, B_api_Page, *, ↓reduceIte, Nat.reduceEqDiff, Nat.reduceAdd, Nat.reduceLT, Nat.reduceMul]
      rfl
    · try simp only [↓Da, Ua, c_page_read_0, B_api_Cell, B_ar_eareapiCell16, B_api_Page, *, ↓reduceIte, Nat.reduceEqDiff, Nat.reduceAdd, Nat.reduceLT, Nat.reduceMul]
      rcases ite_inv h with ⟨h6, h⟩ | ⟨h6, h⟩
      · obtain rfl := sj h
        try simp only [↓Da, Ua, c_page_read_0, B_api_Cell, B_ar_eareapiCell16, B_api_Page, z_page_read, *, ↓reduceIte, Nat.reduceEqDiff, Nat.reduceAdd, Nat.reduceLT, Nat.reduceMul]
        rfl
      · obtain ⟨m7, h8, h⟩ := bi h
        have f9 : sliceS (.p (.s x0)) (some (.p (.i .i64 (IntKind.wrap .i64 ((IntKind.wrap .i64 (12 + (IntKind.wrap .i64 (x13 * 13)))) + 1))))) (some (.p (.i .i64 (IntKind.wrap .i64 ((IntKind.wrap .i64 ((IntKind.wrap .i64 (12 + (IntKind.wrap .i64 (x13 * 13)))) + 1)) + r2))))) = some (.p (.s m7)) := sliceS_ok (k := .i64) (lo := (some (IntKind.wrap .i64 ((IntKind.wrap .i64 (12 + (IntKind.wrap .i64 (x13 * 13)))) + 1)))) (hi := (some (IntKind.wrap .i64 ((IntKind.wrap .i64 ((IntKind.wrap .i64 (12 + (IntKind.wrap .i64 (x13 * 13)))) + 1)) + r2)))) h8
        try simp only [Nf] at f9
        obtain ⟨u10, h11, h⟩ := bi h
        have f12 : (0 ≤ (x13 : Int) ∧ (x13 : Int) < ((16 : Nat) : Int)) = True := eq_true (inb_iff h11)
        obtain ⟨y13, h14, h⟩ := bi h
        have f15 : spl (e_api_Page b1) (2 + Int.toNat x13 * 2) (e_api_Cell (⟨true, m7⟩ : T_api_Cell)) = some (e_api_Page (⟨b1.ID, b1.LSN, (vset b1.Cells x13 (⟨true, m7⟩ : T_api_Cell))⟩ : T_api_Page)) := by
          have e0 := (spl_spl (sub_api_Page_Cells b1) (ar_spl (v := b1.Cells) len_api_Cell (vget_lt h14) (⟨true, m7⟩ : T_api_Cell)) (spl_api_Page_Cells b1 _))
          exact e0
        try simp only [Nf] at f15
        obtain rfl := sj h
        try simp only [↓Da, Ua, c_page_read_0, B_api_Cell, B_ar_eareapiCell16, B_api_Page, *, ↓reduceIte, Nat.reduceEqDiff, Nat.reduceAdd, Nat.reduceLT, Nat.reduceMul]
        rfl
  · obtain ⟨o', h', rfl⟩ := mi h
    try simp only [↓Da, Ua, c_page_read_0, B_api_Cell, B_ar_eareapiCell16, B_api_Page, *, ↓reduceIte, Nat.reduceEqDiff, Nat.reduceAdd, Nat.reduceLT, Nat.reduceMul]
    have e0 := e_page_read_1 p h'
    exact e0


def W_page_read_0 (x0 : List UInt8) (b0 : T_api_Page) (s : Int × T_api_Page) : Option (T_api_Page × Bool) :=
  whileO (fun s => S_page_read_0 x0 b0 s.1 s.2) s

theorem e_page_read_0_w {x0 : List UInt8} {b0 : T_api_Page} {s : Int × T_api_Page} {o : T_api_Page × Bool} (h : W_page_read_0 x0 b0 s = some o) :
    rk (tabOf p) f_page_read 0 [.bl 0, .sq (.keep [2, 4] c_page_read_1)] (X (tabOf p) (.lp 2 [0, 2, 4, 13] c_page_read_0) ⟨[(0, .p (.s x0)), (2, .ptr 0 0), (4, .ptr 1 0), (13, .p (.i .i64 s.1))], [.box (List.map AV.p (e_api_Page b0)), .box (List.map AV.p (e_api_Page s.2))]⟩) = d_page_read o := by
  have h0 : whileO (fun s => S_page_read_0 x0 b0 s.1 s.2) s = some o := h
  exact while_ind (P := fun (s : Int × T_api_Page) (o : T_api_Page × Bool) => rk (tabOf p) f_page_read 0 [.bl 0, .sq (.keep [2, 4] c_page_read_1)] (X (tabOf p) (.lp 2 [0, 2, 4, 13] c_page_read_0) ⟨[(0, .p (.s x0)), (2, .ptr 0 0), (4, .ptr 1 0), (13, .p (.i .i64 s.1))], [.box (List.map AV.p (e_api_Page b0)), .box (List.map AV.p (e_api_Page s.2))]⟩) = d_page_read o) (fun s r hs => by rw [rk_lp]; exact e_page_read_0 p hs) (fun s s1 r hs ih => by rw [rk_lp]; exact (e_page_read_0 p hs).trans ih) h0

def S_page_read (x0 : List UInt8) : Option (T_api_Page × Bool) :=
  Option.bind (S_page_number x0 8 4) fun r1 =>
  Option.bind (S_page_number x0 0 8) fun r4 =>
  W_page_read_0 x0 (⟨0, 0, (Vector.replicate 16 (⟨false, []⟩ : T_api_Cell))⟩ : T_api_Page) (0, (⟨r1, r4, (Vector.replicate 16 (⟨false, []⟩ : T_api_Cell))⟩ : T_api_Page))

theorem e_page_read_top {x0 : List UInt8} {o : T_api_Page × Bool} (h : S_page_read x0 = some o) :
    rk (tabOf p) f_page_read 0 [] (X (tabOf p) c_page_read ⟨[(0, .p (.s x0))], []⟩) = d_page_read o := by
  unfold S_page_read at h
  obtain ⟨r1, h2, h⟩ := bi h
  have f3 := q_page_number p h2
  try simp only [Nf] at f3
  obtain ⟨r4, h5, h⟩ := bi h
  have f6 := q_page_number p h5
  try simp only [Nf] at f6
  try simp only [↓Da, Ua, c_page_read, B_api_Cell, B_ar_eareapiCell16, B_api_Page, *, ↓reduceIte, Nat.reduceEqDiff, Nat.reduceAdd, Nat.reduceLT, Nat.reduceMul]
  have e0 := e_page_read_0_w p h
  exact e0


theorem e_page_read {x0 : List UInt8} {o : T_api_Page × Bool} (h : S_page_read x0 = some o) : AF (tabOf p) i_page_read [.p (.s x0)] [] = d_page_read o :=
  (AF_rk (tabOf p) (t_page_read p) rfl).trans (e_page_read_top p h)

theorem q_page_read {x0 : List UInt8} {o : T_api_Page × Bool} (h : S_page_read x0 = some o) : ∀ ws new st, (callR2 (AF (tabOf p)) i_page_read ([.p (.s x0)], ws) 0 new).run st = some ⟨.tup [.data (e_api_Page o.1), .p (.b o.2)], ws⟩ := callR2_plain rfl (e_page_read p h) rfl

/-! pagemend/page.named -/

def d_page_named  (r : Bool) : Option Res := some (.p (.b r), [])

def S_page_named (x0 : Int) : Option (Bool) :=
  if (decide (x0 ≥ 0)) then
    some (decide (x0 < 64))
  else
    some false

theorem e_page_named_top {x0 : Int} {o : Bool} (h : S_page_named x0 = some o) :
    rk (tabOf p) f_page_named 0 [] (X (tabOf p) c_page_named ⟨[(0, .p (.i .i64 x0))], []⟩) = d_page_named o := by
  unfold S_page_named at h
  rcases ite_inv h with ⟨h1, h⟩ | ⟨h1, h⟩
  · obtain rfl := sj h
    try simp only [↓Da, Ua, c_page_named, z_page_named, *, ↓reduceIte, Nat.reduceEqDiff, Nat.reduceAdd, Nat.reduceLT, Nat.reduceMul]
    rfl
  · obtain rfl := sj h
    try simp only [↓Da, Ua, c_page_named, z_page_named, *, ↓reduceIte, Nat.reduceEqDiff, Nat.reduceAdd, Nat.reduceLT, Nat.reduceMul]
    rfl


theorem e_page_named {x0 : Int} {o : Bool} (h : S_page_named x0 = some o) : AF (tabOf p) i_page_named [.p (.i .i64 x0)] [] = d_page_named o :=
  (AF_rk (tabOf p) (t_page_named p) rfl).trans (e_page_named_top p h)

theorem q_page_named {x0 : Int} {o : Bool} (h : S_page_named x0 = some o) : ∀ ws new st, (callR2 (AF (tabOf p)) i_page_named ([.p (.i .i64 x0)], ws) 0 new).run st = some ⟨.p (.b o), ws⟩ := callR2_plain rfl (e_page_named p h) rfl

/-! pagemend/codec.remainders -/

def d_codec_remainders  (r : (Vector Int 16)) : Option Res := some (.data ((e_ar (r_i .u32)) r), [])

def d_codec_remainders_3 (b0 : Vector Int 16) (o : (Int × (Vector Int 16)) ⊕ ((Vector Int 16))) : Option Res := match o with
  | .inl s => rk (tabOf p) f_codec_remainders 0 [.bl 0, .sq (.keep [0, 1] c_codec_remainders_4)] (X (tabOf p) (.lp 2 [0, 1, 4] c_codec_remainders_3) ⟨[(0, .ptr 0 0), (1, .ptr 1 0), (4, .p (.i .i64 s.1))], [.box (List.map AV.p ((e_ar (r_i .u32)) b0)), .box (List.map AV.p ((e_ar (r_i .u32)) s.2))]⟩)
  | .inr o => d_codec_remainders o

def d_codec_remainders_0 (x2 : Int) (x4 : Int) (b0 : Vector Int 16) (b1 : Vector Int 16) (o : (Int × Int) ⊕ (((Int × (Vector Int 16)) ⊕ ((Vector Int 16))))) : Option Res := match o with
  | .inl s => rk (tabOf p) f_codec_remainders 0 [.bl 2, .sq (.keep [0, 1, 2, 3, 4] c_codec_remainders_1), .bl 1, .sq (.keep [0, 1, 4] c_codec_remainders_2), .lo 2 [0, 1, 4] c_codec_remainders_3, .bl 0, .sq (.keep [0, 1] c_codec_remainders_4)] (X (tabOf p) (.lp 2 [0, 1, 2, 3, 4, 9] c_codec_remainders_0) ⟨[(0, .ptr 0 0), (1, .ptr 1 0), (2, .p (.i .i64 x2)), (3, .p (.i .u32 s.1)), (4, .p (.i .i64 x4)), (9, .p (.i .i64 s.2))], [.box (List.map AV.p ((e_ar (r_i .u32)) b0)), .box (List.map AV.p ((e_ar (r_i .u32)) b1))]⟩)
  | .inr o => (d_codec_remainders_3 p b0) o

def S_codec_remainders_2 (x4 : Int) (b0 : Vector Int 16) (b1 : Vector Int 16) : Option (((Int × (Vector Int 16)) ⊕ ((Vector Int 16)))) :=
  some (.inl ((IntKind.wrap .i64 (x4 + 1)), b1))

theorem e_codec_remainders_2 {x4 : Int} {b0 : Vector Int 16} {b1 : Vector Int 16} {o : ((Int × (Vector Int 16)) ⊕ ((Vector Int 16)))} (h : S_codec_remainders_2 x4 b0 b1 = some o) :
    rk (tabOf p) f_codec_remainders 0 [.lo 2 [0, 1, 4] c_codec_remainders_3, .bl 0, .sq (.keep [0, 1] c_codec_remainders_4)] (X (tabOf p) c_codec_remainders_2 ⟨[(0, .ptr 0 0), (1, .ptr 1 0), (4, .p (.i .i64 x4))], [.box (List.map AV.p ((e_ar (r_i .u32)) b0)), .box (List.map AV.p ((e_ar (r_i .u32)) b1))]⟩) = (d_codec_remainders_3 p b0) o := by
  unfold S_codec_remainders_2 at h
  obtain rfl := sj h
  try simp only [↓Da, Ua, c_codec_remainders_2, ↓reduceIte, Nat.reduceEqDiff, Nat.reduceAdd, Nat.reduceLT, Nat.reduceMul]
  rfl


def S_codec_remainders_1 (x2 : Int) (x3 : Int) (x4 : Int) (b0 : Vector Int 16) (b1 : Vector Int 16) : Option (((Int × (Vector Int 16)) ⊕ ((Vector Int 16)))) :=
  Option.bind (inb 16 x2) fun u1 =>
  Option.bind (vget b1 x2) fun y4 =>
  S_codec_remainders_2 x4 b0 (vset b1 x2 x3)

theorem e_codec_remainders_1 {x2 : Int} {x3 : Int} {x4 : Int} {b0 : Vector Int 16} {b1 : Vector Int 16} {o : ((Int × (Vector Int 16)) ⊕ ((Vector Int 16)))} (h : S_codec_remainders_1 x2 x3 x4 b0 b1 = some o) :
    rk (tabOf p) f_codec_remainders 0 [.bl 1, .sq (.keep [0, 1, 4] c_codec_remainders_2), .lo 2 [0, 1, 4] c_codec_remainders_3, .bl 0, .sq (.keep [0, 1] c_codec_remainders_4)] (X (tabOf p) c_codec_remainders_1 ⟨[(0, .ptr 0 0), (1, .ptr 1 0), (2, .p (.i .i64 x2)), (3, .p (.i .u32 x3)), (4, .p (.i .i64 x4))], [.box (List.map AV.p ((e_ar (r_i .u32)) b0)), .box (List.map AV.p ((e_ar (r_i .u32)) b1))]⟩) = (d_codec_remainders_3 p b0) o := by
  unfold S_codec_remainders_1 at h
  obtain ⟨u1, h2, h⟩ := bi h
  have f3 : (0 ≤ (x2 : Int) ∧ (x2 : Int) < ((16 : Nat) : Int)) = True := eq_true (inb_iff h2)
  obtain ⟨y4, h5, h⟩ := bi h
  have f6 : spl ((e_ar (r_i .u32)) b1) (Int.toNat x2 * 1) ((r_i .u32) x3) = some ((e_ar (r_i .u32)) (vset b1 x2 x3)) := by
    have e0 := (ar_spl (v := b1) (r_i_len .u32) (vget_lt h5) x3)
    exact e0
  try simp only [Nf] at f6
  try simp only [↓Da, Ua, c_codec_remainders_1, *, ↓reduceIte, Nat.reduceEqDiff, Nat.reduceAdd, Nat.reduceLT, Nat.reduceMul]
  have e0 := e_codec_remainders_2 p h
  exact e0


def S_codec_remainders_0 (x2 : Int) (x4 : Int) (b0 : Vector Int 16) (b1 : Vector Int 16) (x3 : Int) (x9 : Int) : Option (((Int × Int) ⊕ (((Int × (Vector Int 16)) ⊕ ((Vector Int 16)))))) :=
  if (decide (x9 < 4)) then
    if (((andI .u32 x3 1) : Int) == 1) then
      Option.bind (shrS .u32 x3 1) fun q3 =>
      some (.inl ((xorI .u32 q3 2197175160), (IntKind.wrap .i64 (x9 + 1))))
    else
      Option.bind (shrS .u32 x3 1) fun q5 =>
      some (.inl (q5, (IntKind.wrap .i64 (x9 + 1))))
  else
    Option.map (fun o => .inr o) (S_codec_remainders_1 x2 x3 x4 b0 b1)

theorem e_codec_remainders_0 {x2 : Int} {x4 : Int} {b0 : Vector Int 16} {b1 : Vector Int 16} {x3 : Int} {x9 : Int} {o : ((Int × Int) ⊕ (((Int × (Vector Int 16)) ⊕ ((Vector Int 16)))))} (h : S_codec_remainders_0 x2 x4 b0 b1 x3 x9 = some o) :
    rk (tabOf p) f_codec_remainders 0 [.lo 2 [0, 1, 2, 3, 4, 9] c_codec_remainders_0, .bl 2, .sq (.keep [0, 1, 2, 3, 4] c_codec_remainders_1), .bl 1, .sq (.keep [0, 1, 4] c_codec_remainders_2), .lo 2 [0, 1, 4] c_codec_remainders_3, .bl 0, .sq (.keep [0, 1] c_codec_remainders_4)] (X (tabOf p) c_codec_remainders_0 ⟨[(0, .ptr 0 0), (1, .ptr 1 0), (2, .p (.i .i64 x2)), (3, .p (.i .u32 x3)), (4, .p (.i .i64 x4)), (9, .p (.i .i64 x9))], [.box (List.map AV.p ((e_ar (r_i .u32)) b0)), .box (List.map AV.p ((e_ar (r_i .u32)) b1))]⟩) = (d_codec_remainders_0 p x2 x4 b0 b1) o := by
  unfold S_codec_remainders_0 at h
  rcases ite_inv h with ⟨h1, h⟩ | ⟨h1, h⟩
  · try simp only [↓Da, Ua, c_codec_remainders_0, *, ↓reduceIte, Nat.reduceEqDiff, Nat.reduceAdd, Nat.reduceLT, Nat.reduceMul]
    rcases ite_inv h with ⟨h2, h⟩ | ⟨h2, h⟩
    · obtain ⟨q3, h4, h⟩ := bi h
      obtain rfl := sj h
      try simp only [↓Da, Ua, c_codec_remainders_0, *, ↓reduceIte, Nat.reduceEqDiff, Nat.reduceAdd, Nat.reduceLT, Nat.reduceMul]
      rfl
    · obtain ⟨q5, h6, h⟩ := bi h
      obtain rfl := sj h
      try simp only [↓Da, Ua, c_codec_remainders_0, *, ↓reduceIte, Nat.reduceEqDiff, Nat.reduceAdd, Nat.reduceLT, Nat.reduceMul]
      rfl
  · obtain ⟨o', h', rfl⟩ := mi h
    try simp only [↓Da, Ua, c_codec_remainders_0, *, ↓reduceIte, Nat.reduceEqDiff, Nat.reduceAdd, Nat.reduceLT, Nat.reduceMul]
    have e0 := e_codec_remainders_1 p h'
    exact e0


def W_codec_remainders_0 (x2 : Int) (x4 : Int) (b0 : Vector Int 16) (b1 : Vector Int 16) (s : Int × Int) : Option (((Int × (Vector Int 16)) ⊕ ((Vector Int 16)))) :=
  whileO (fun s => S_codec_remainders_0 x2 x4 b0 b1 s.1 s.2) s

theorem e_codec_remainders_0_w {x2 : Int} {x4 : Int} {b0 : Vector Int 16} {b1 : Vector Int 16} {s : Int × Int} {o : ((Int × (Vector Int 16)) ⊕ ((Vector Int 16)))} (h : W_codec_remainders_0 x2 x4 b0 b1 s = some o) :
    rk (tabOf p) f_codec_remainders 0 [.bl 2, .sq (.keep [0, 1, 2, 3, 4] c_codec_remainders_1), .bl 1, .sq (.keep [0, 1, 4] c_codec_remainders_2), .lo 2 [0, 1, 4] c_codec_remainders_3, .bl 0, .sq (.keep [0, 1] c_codec_remainders_4)] (X (tabOf p) (.lp 2 [0, 1, 2, 3, 4, 9] c_codec_remainders_0) ⟨[(0, .ptr 0 0), (1, .ptr 1 0), (2, .p (.i .i64 x2)), (3, .p (.i .u32 s.1)), (4, .p (.i .i64 x4)), (9, .p (.i .i64 s.2))], [.box (List.map AV.p ((e_ar (r_i .u32)) b0)), .box (List.map AV.p ((e_ar (r_i .u32)) b1))]⟩) = (d_codec_remainders_3 p b0) o := by
  have h0 : whileO (fun s => S_codec_remainders_0 x2 x4 b0 b1 s.1 s.2) s = some o := h
  exact while_ind (P := fun (s : Int × Int) (o : ((Int × (Vector Int 16)) ⊕ ((Vector Int 16)))) => rk (tabOf p) f_codec_remainders 0 [.bl 2, .sq (.keep [0, 1, 2, 3, 4] c_codec_remainders_1), .bl 1, .sq (.keep [0, 1, 4] c_codec_remainders_2), .lo 2 [0, 1, 4] c_codec_remainders_3, .bl 0, .sq (.keep [0, 1] c_codec_remainders_4)] (X (tabOf p) (.lp 2 [0, 1, 2, 3, 4, 9] c_codec_remainders_0) ⟨[(0, .ptr 0 0), (1, .ptr 1 0), (2, .p (.i .i64 x2)), (3, .p (.i .u32 s.1)), (4, .p (.i .i64 x4)), (9, .p (.i .i64 s.2))], [.box (List.map AV.p ((e_ar (r_i .u32)) b0)), .box (List.map AV.p ((e_ar (r_i .u32)) b1))]⟩) = (d_codec_remainders_3 p b0) o) (fun s r hs => by rw [rk_lp]; exact e_codec_remainders_0 p hs) (fun s s1 r hs ih => by rw [rk_lp]; exact (e_codec_remainders_0 p hs).trans ih) h0

def S_codec_remainders_4 (b0 : Vector Int 16) (b1 : Vector Int 16) : Option ((Vector Int 16)) :=
  some b1

theorem e_codec_remainders_4 {b0 : Vector Int 16} {b1 : Vector Int 16} {o : (Vector Int 16)} (h : S_codec_remainders_4 b0 b1 = some o) :
    rk (tabOf p) f_codec_remainders 0 [] (X (tabOf p) c_codec_remainders_4 ⟨[(0, .ptr 0 0), (1, .ptr 1 0)], [.box (List.map AV.p ((e_ar (r_i .u32)) b0)), .box (List.map AV.p ((e_ar (r_i .u32)) b1))]⟩) = d_codec_remainders o := by
  unfold S_codec_remainders_4 at h
  obtain rfl := sj h
  try simp only [↓Da, Ua, c_codec_remainders_4, B_ar_earriu3216, z_codec_remainders, ↓reduceIte, Nat.reduceEqDiff, Nat.reduceAdd, Nat.reduceLT, Nat.reduceMul]
  rfl


def S_codec_remainders_3 (b0 : Vector Int 16) (x4 : Int) (b1 : Vector Int 16) : Option (((Int × (Vector Int 16)) ⊕ ((Vector Int 16)))) :=
  if (decide (x4 < 16)) then
    W_codec_remainders_0 x4 x4 b0 b1 ((IntKind.wrap .u32 x4), 0)
  else
    Option.map (fun o => .inr o) (S_codec_remainders_4 b0 b1)

theorem e_codec_remainders_3 {b0 : Vector Int 16} {x4 : Int} {b1 : Vector Int 16} {o : ((Int × (Vector Int 16)) ⊕ ((Vector Int 16)))} (h : S_codec_remainders_3 b0 x4 b1 = some o) :
    rk (tabOf p) f_codec_remainders 0 [.lo 2 [0, 1, 4] c_codec_remainders_3, .bl 0, .sq (.keep [0, 1] c_codec_remainders_4)] (X (tabOf p) c_codec_remainders_3 ⟨[(0, .ptr 0 0), (1, .ptr 1 0), (4, .p (.i .i64 x4))], [.box (List.map AV.p ((e_ar (r_i .u32)) b0)), .box (List.map AV.p ((e_ar (r_i .u32)) b1))]⟩) = (d_codec_remainders_3 p b0) o := by
  unfold S_codec_remainders_3 at h
  rcases ite_inv h with ⟨h1, h⟩ | ⟨h1, h⟩
  · try simp only [↓Da, Ua, c_codec_remainders_3, *, ↓reduceIte, Nat.reduceEqDiff, Nat.reduceAdd, Nat.reduceLT, Nat.reduceMul]
    have e0 := e_codec_remainders_0_w p h
    exact e0
  · obtain ⟨o', h', rfl⟩ := mi h
    try simp only [↓Da, Ua, c_codec_remainders_3, *, ↓reduceIte, Nat.reduceEqDiff, Nat.reduceAdd, Nat.reduceLT, Nat.reduceMul]
    have e0 := e_codec_remainders_4 p h'
    exact e0


def W_codec_remainders_3 (b0 : Vector Int 16) (s : Int × (Vector Int 16)) : Option ((Vector Int 16)) :=
  whileO (fun s => S_codec_remainders_3 b0 s.1 s.2) s

theorem e_codec_remainders_3_w {b0 : Vector Int 16} {s : Int × (Vector Int 16)} {o : (Vector Int 16)} (h : W_codec_remainders_3 b0 s = some o) :
    rk (tabOf p) f_codec_remainders 0 [.bl 0, .sq (.keep [0, 1] c_codec_remainders_4)] (X (tabOf p) (.lp 2 [0, 1, 4] c_codec_remainders_3) ⟨[(0, .ptr 0 0), (1, .ptr 1 0), (4, .p (.i .i64 s.1))], [.box (List.map AV.p ((e_ar (r_i .u32)) b0)), .box (List.map AV.p ((e_ar (r_i .u32)) s.2))]⟩) = d_codec_remainders o := by
  have h0 : whileO (fun s => S_codec_remainders_3 b0 s.1 s.2) s = some o := h
  exact while_ind (P := fun (s : Int × (Vector Int 16)) (o : (Vector Int 16)) => rk (tabOf p) f_codec_remainders 0 [.bl 0, .sq (.keep [0, 1] c_codec_remainders_4)] (X (tabOf p) (.lp 2 [0, 1, 4] c_codec_remainders_3) ⟨[(0, .ptr 0 0), (1, .ptr 1 0), (4, .p (.i .i64 s.1))], [.box (List.map AV.p ((e_ar (r_i .u32)) b0)), .box (List.map AV.p ((e_ar (r_i .u32)) s.2))]⟩) = d_codec_remainders o) (fun s r hs => by rw [rk_lp]; exact e_codec_remainders_3 p hs) (fun s s1 r hs ih => by rw [rk_lp]; exact (e_codec_remainders_3 p hs).trans ih) h0

def S_codec_remainders  : Option ((Vector Int 16)) :=
  W_codec_remainders_3 (Vector.replicate 16 0) (0, (Vector.replicate 16 0))

theorem e_codec_remainders_top  {o : (Vector Int 16)} (h : S_codec_remainders = some o) :
    rk (tabOf p) f_codec_remainders 0 [] (X (tabOf p) c_codec_remainders ⟨[], []⟩) = d_codec_remainders o := by
  unfold S_codec_remainders at h
  try simp only [↓Da, Ua, c_codec_remainders, B_ar_earriu3216, ↓reduceIte, Nat.reduceEqDiff, Nat.reduceAdd, Nat.reduceLT, Nat.reduceMul]
  have e0 := e_codec_remainders_3_w p h
  exact e0


theorem e_codec_remainders  {o : (Vector Int 16)} (h : S_codec_remainders = some o) : AF (tabOf p) i_codec_remainders [] [] = d_codec_remainders o :=
  (AF_rk (tabOf p) (t_codec_remainders p) rfl).trans (e_codec_remainders_top p h)

theorem q_codec_remainders  {o : (Vector Int 16)} (h : S_codec_remainders = some o) : ∀ ws new st, (callR2 (AF (tabOf p)) i_codec_remainders ([], ws) 0 new).run st = some ⟨.data ((e_ar (r_i .u32)) o), ws⟩ := callR2_plain rfl (e_codec_remainders p h) rfl

/-! pagemend/pagemendref02.ValidCell -/

def d_ref02_ValidCell  (r : Bool) : Option Res := some (.p (.b r), [])

def S_ref02_ValidCell (x0 : T_api_Cell) : Option (Bool) :=
  if (decide (((List.length x0.Data : Nat) : Int) ≤ 12)) then
    if x0.Set then
      some true
    else
      some (x0.Data == [])
  else
    some false

theorem e_ref02_ValidCell_top {x0 : T_api_Cell} {o : Bool} (h : S_ref02_ValidCell x0 = some o) :
    rk (tabOf p) f_ref02_ValidCell 0 [] (X (tabOf p) c_ref02_ValidCell ⟨[(0, .data (e_api_Cell x0))], []⟩) = d_ref02_ValidCell o := by
  unfold S_ref02_ValidCell at h
  rcases ite_inv h with ⟨h1, h⟩ | ⟨h1, h⟩
  · try simp only [↓Da, Ua, c_ref02_ValidCell, B_api_Cell, *, ↓reduceIte, Nat.reduceEqDiff, Nat.reduceAdd, Nat.reduceLT, Nat.reduceMul]
    rcases ite_inv h with ⟨h2, h⟩ | ⟨h2, h⟩
    · obtain rfl := sj h
      try simp only [↓Da, Ua, c_ref02_ValidCell, B_api_Cell, z_ref02_ValidCell, *, ↓reduceIte, Nat.reduceEqDiff, Nat.reduceAdd, Nat.reduceLT, Nat.reduceMul]
      rfl
    · obtain rfl := sj h
      try simp only [↓Da, Ua, c_ref02_ValidCell, B_api_Cell, z_ref02_ValidCell, *, ↓reduceIte, Nat.reduceEqDiff, Nat.reduceAdd, Nat.reduceLT, Nat.reduceMul]
      rfl
  · obtain rfl := sj h
    try simp only [↓Da, Ua, c_ref02_ValidCell, B_api_Cell, z_ref02_ValidCell, *, ↓reduceIte, Nat.reduceEqDiff, Nat.reduceAdd, Nat.reduceLT, Nat.reduceMul]
    rfl


theorem e_ref02_ValidCell {x0 : T_api_Cell} {o : Bool} (h : S_ref02_ValidCell x0 = some o) : AF (tabOf p) i_ref02_ValidCell [.data (e_api_Cell x0)] [] = d_ref02_ValidCell o :=
  (AF_rk (tabOf p) (t_ref02_ValidCell p) rfl).trans (e_ref02_ValidCell_top p h)

theorem q_ref02_ValidCell {x0 : T_api_Cell} {o : Bool} (h : S_ref02_ValidCell x0 = some o) : ∀ ws new st, (callR2 (AF (tabOf p)) i_ref02_ValidCell ([.data (e_api_Cell x0)], ws) 0 new).run st = some ⟨.p (.b o), ws⟩ := callR2_plain rfl (e_ref02_ValidCell p h) rfl

/-! (*pagemend/pagemenddraw.Codes).Page -/

def d_draw_Codes_Page  (r : T_api_Page × T_pagemenddraw_Codes) : Option Res := some (.data (e_api_Page r.1), [.box (List.map AV.p (e_pagemenddraw_Codes r.2))])

def d_draw_Codes_Page_0 (b1 : T_api_Page) (o : (Int × T_pagemenddraw_Codes × T_api_Page) ⊕ (T_api_Page × T_pagemenddraw_Codes)) : Option Res := match o with
  | .inl s => rk (tabOf p) f_draw_Codes_Page 1 [.bl 0, .sq (.keep [4, 5] c_draw_Codes_Page_1)] (X (tabOf p) (.lp 3 [0, 4, 5, 6] c_draw_Codes_Page_0) ⟨[(0, .ptr 0 0), (4, .ptr 1 0), (5, .ptr 2 0), (6, .p (.i .i64 s.1))], [.box (List.map AV.p (e_pagemenddraw_Codes s.2.1)), .box (List.map AV.p (e_api_Page b1)), .box (List.map AV.p (e_api_Page s.2.2))]⟩)
  | .inr o => d_draw_Codes_Page o

def S_draw_Codes_Page_1 (b0 : T_pagemenddraw_Codes) (b1 : T_api_Page) (b2 : T_api_Page) : Option (T_api_Page × T_pagemenddraw_Codes) :=
  some (b2, b0)

theorem e_draw_Codes_Page_1 {b0 : T_pagemenddraw_Codes} {b1 : T_api_Page} {b2 : T_api_Page} {o : T_api_Page × T_pagemenddraw_Codes} (h : S_draw_Codes_Page_1 b0 b1 b2 = some o) :
    rk (tabOf p) f_draw_Codes_Page 1 [] (X (tabOf p) c_draw_Codes_Page_1 ⟨[(4, .ptr 1 0), (5, .ptr 2 0)], [.box (List.map AV.p (e_pagemenddraw_Codes b0)), .box (List.map AV.p (e_api_Page b1)), .box (List.map AV.p (e_api_Page b2))]⟩) = d_draw_Codes_Page o := by
  unfold S_draw_Codes_Page_1 at h
  obtain rfl := sj h
  try simp only [↓Da, Ua, c_draw_Codes_Page_1, B_api_Cell, B_ar_eareapiCell16, B_api_Page, z_draw_Codes_Page, ↓reduceIte, Nat.reduceEqDiff, Nat.reduceAdd, Nat.reduceLT, Nat.reduceMul]
  rfl


def S_draw_Codes_Page_0 (b1 : T_api_Page) (x6 : Int) (b0 : T_pagemenddraw_Codes) (b2 : T_api_Page) : Option (((Int × T_pagemenddraw_Codes × T_api_Page) ⊕ (T_api_Page × T_pagemenddraw_Codes))) :=
  if (decide (x6 > 0)) then
    Option.bind (S_draw_Codes_Next b0 16) fun r2 =>
    Option.bind (S_draw_Codes_Cell r2.2) fun r5 =>
    Option.bind (inb 16 r2.1) fun u8 =>
    Option.bind (vget b2.Cells r2.1) fun y11 =>
    some (.inl ((IntKind.wrap .i64 (x6 - 1)), r5.2, (⟨b2.ID, b2.LSN, (vset b2.Cells r2.1 r5.1)⟩ : T_api_Page)))
  else
    Option.map (fun o => .inr o) (S_draw_Codes_Page_1 b0 b1 b2)

theorem e_draw_Codes_Page_0 {b1 : T_api_Page} {x6 : Int} {b0 : T_pagemenddraw_Codes} {b2 : T_api_Page} {o : ((Int × T_pagemenddraw_Codes × T_api_Page) ⊕ (T_api_Page × T_pagemenddraw_Codes))} (h : S_draw_Codes_Page_0 b1 x6 b0 b2 = some o) :
    rk (tabOf p) f_draw_Codes_Page 1 [.lo 3 [0, 4, 5, 6] c_draw_Codes_Page_0, .bl 0, .sq (.keep [4, 5] c_draw_Codes_Page_1)] (X (tabOf p) c_draw_Codes_Page_0 ⟨[(0, .ptr 0 0), (4, .ptr 1 0), (5, .ptr 2 0), (6, .p (.i .i64 x6))], [.box (List.map AV.p (e_pagemenddraw_Codes b0)), .box (List.map AV.p (e_api_Page b1)), .box (List.map AV.p (e_api_Page b2))]⟩) = (d_draw_Codes_Page_0 p b1) o := by
  unfold S_draw_Codes_Page_0 at h
  rcases ite_inv h with ⟨h1, h⟩ | ⟨h1, h⟩
  · obtain ⟨r2, h3, h⟩ := bi h
    have f4 : ∀ ws new s, boxesAt ws s [0] [List.map AV.p (e_pagemenddraw_Codes b0)] → (callR2 (AF (tabOf p)) i_draw_Codes_Next ([.ptr 0 0, .p (.i .i64 16)], ws) 0 new).run s = some ⟨.p (.i .i64 r2.1), ws ++ [(0, .box (List.map AV.p (e_pagemenddraw_Codes r2.2)))]⟩ := callR2_ptrs (args' := [.ptr 0 0, .p (.i .i64 16)]) (bs := [0]) (css := [List.map AV.p (e_pagemenddraw_Codes b0)]) (css' := [List.map AV.p (e_pagemenddraw_Codes r2.2)]) rfl rfl rfl (by simp [allPlain, all_plain_mapp]) (e_draw_Codes_Next p h3) rfl rfl (by simp [allPlain, all_plain_mapp])
    try simp only [Nf] at f4
    obtain ⟨r5, h6, h⟩ := bi h
    have f7 : ∀ ws new s, boxesAt ws s [0] [List.map AV.p (e_pagemenddraw_Codes r2.2)] → (callR2 (AF (tabOf p)) i_draw_Codes_Cell ([.ptr 0 0], ws) 0 new).run s = some ⟨.data (e_api_Cell r5.1), ws ++ [(0, .box (List.map AV.p (e_pagemenddraw_Codes r5.2)))]⟩ := callR2_ptrs (args' := [.ptr 0 0]) (bs := [0]) (css := [List.map AV.p (e_pagemenddraw_Codes r2.2)]) (css' := [List.map AV.p (e_pagemenddraw_Codes r5.2)]) rfl rfl rfl (by simp [allPlain, all_plain_mapp]) (e_draw_Codes_Cell p h6) rfl rfl (by simp [allPlain, all_plain_mapp])
    try simp only [Nf] at f7
    obtain ⟨u8, h9, h⟩ := bi h
    have f10 : (0 ≤ (r2.1 : Int) ∧ (r2.1 : Int) < ((16 : Nat) : Int)) = True := eq_true (inb_iff h9)
    obtain ⟨y11, h12, h⟩ := bi h
    have f13 : spl (e_api_Page b2) (2 + Int.toNat r2.1 * 2) (e_api_Cell r5.1) = some (e_api_Page (⟨b2.ID, b2.LSN, (vset b2.Cells r2.1 r5.1)⟩ : T_api_Page)) := by
      have e0 := (spl_spl (sub_api_Page_Cells b2) (ar_spl (v := b2.Cells) len_api_Cell (vget_lt h12) r5.1) (spl_api_Page_Cells b2 _))
      exact e0
    try simp only [Nf] at f13
    obtain rfl := sj h
    try simp only [↓Da, Ua, c_draw_Codes_Page_0, B_api_Cell, B_pagemenddraw_Codes, *, ↓reduceIte, Nat.reduceEqDiff, Nat.reduceAdd, Nat.reduceLT, Nat.reduceMul]
    rfl
  · obtain ⟨o', h', rfl⟩ := mi h
    try simp only [↓Da, Ua, c_draw_Codes_Page_0, B_api_Cell, B_pagemenddraw_Codes, *, ↓reduceIte, Nat.reduceEqDiff, Nat.reduceAdd, Nat.reduceLT, Nat.reduceMul]
    have e0 := e_draw_Codes_Page_1 p h'
    exact e0


def W_draw_Codes_Page_0 (b1 : T_api_Page) (s : Int × T_pagemenddraw_Codes × T_api_Page) : Option (T_api_Page × T_pagemenddraw_Codes) :=
  whileO (fun s => S_draw_Codes_Page_0 b1 s.1 s.2.1 s.2.2) s

theorem e_draw_Codes_Page_0_w {b1 : T_api_Page} {s : Int × T_pagemenddraw_Codes × T_api_Page} {o : T_api_Page × T_pagemenddraw_Codes} (h : W_draw_Codes_Page_0 b1 s = some o) :
    rk (tabOf p) f_draw_Codes_Page 1 [.bl 0, .sq (.keep [4, 5] c_draw_Codes_Page_1)] (X (tabOf p) (.lp 3 [0, 4, 5, 6] c_draw_Codes_Page_0) ⟨[(0, .ptr 0 0), (4, .ptr 1 0), (5, .ptr 2 0), (6, .p (.i .i64 s.1))], [.box (List.map AV.p (e_pagemenddraw_Codes s.2.1)), .box (List.map AV.p (e_api_Page b1)), .box (List.map AV.p (e_api_Page s.2.2))]⟩) = d_draw_Codes_Page o := by
  have h0 : whileO (fun s => S_draw_Codes_Page_0 b1 s.1 s.2.1 s.2.2) s = some o := h
  exact while_ind (P := fun (s : Int × T_pagemenddraw_Codes × T_api_Page) (o : T_api_Page × T_pagemenddraw_Codes) => rk (tabOf p) f_draw_Codes_Page 1 [.bl 0, .sq (.keep [4, 5] c_draw_Codes_Page_1)] (X (tabOf p) (.lp 3 [0, 4, 5, 6] c_draw_Codes_Page_0) ⟨[(0, .ptr 0 0), (4, .ptr 1 0), (5, .ptr 2 0), (6, .p (.i .i64 s.1))], [.box (List.map AV.p (e_pagemenddraw_Codes s.2.1)), .box (List.map AV.p (e_api_Page b1)), .box (List.map AV.p (e_api_Page s.2.2))]⟩) = d_draw_Codes_Page o) (fun s r hs => by rw [rk_lp]; exact e_draw_Codes_Page_0 p hs) (fun s s1 r hs ih => by rw [rk_lp]; exact (e_draw_Codes_Page_0 p hs).trans ih) h0

def S_draw_Codes_Page_2 (b0 : T_pagemenddraw_Codes) (b1 : T_api_Page) (b2 : T_api_Page) : Option (T_api_Page × T_pagemenddraw_Codes) :=
  if (decide (b2.LSN > 0)) then
    Option.bind (S_draw_Codes_Next b0 6) fun r2 =>
    W_draw_Codes_Page_0 b1 (r2.1, r2.2, b2)
  else
    S_draw_Codes_Page_1 b0 b1 b2

theorem e_draw_Codes_Page_2 {b0 : T_pagemenddraw_Codes} {b1 : T_api_Page} {b2 : T_api_Page} {o : T_api_Page × T_pagemenddraw_Codes} (h : S_draw_Codes_Page_2 b0 b1 b2 = some o) :
    rk (tabOf p) f_draw_Codes_Page 1 [] (X (tabOf p) c_draw_Codes_Page_2 ⟨[(0, .ptr 0 0), (4, .ptr 1 0), (5, .ptr 2 0)], [.box (List.map AV.p (e_pagemenddraw_Codes b0)), .box (List.map AV.p (e_api_Page b1)), .box (List.map AV.p (e_api_Page b2))]⟩) = d_draw_Codes_Page o := by
  unfold S_draw_Codes_Page_2 at h
  rcases ite_inv h with ⟨h1, h⟩ | ⟨h1, h⟩
  · obtain ⟨r2, h3, h⟩ := bi h
    have f4 : ∀ ws new s, boxesAt ws s [0] [List.map AV.p (e_pagemenddraw_Codes b0)] → (callR2 (AF (tabOf p)) i_draw_Codes_Next ([.ptr 0 0, .p (.i .i64 6)], ws) 0 new).run s = some ⟨.p (.i .i64 r2.1), ws ++ [(0, .box (List.map AV.p (e_pagemenddraw_Codes r2.2)))]⟩ := callR2_ptrs (args' := [.ptr 0 0, .p (.i .i64 6)]) (bs := [0]) (css := [List.map AV.p (e_pagemenddraw_Codes b0)]) (css' := [List.map AV.p (e_pagemenddraw_Codes r2.2)]) rfl rfl rfl (by simp [allPlain, all_plain_mapp]) (e_draw_Codes_Next p h3) rfl rfl (by simp [allPlain, all_plain_mapp])
    try simp only [Nf] at f4
    try simp only [↓Da, Ua, c_draw_Codes_Page_2, B_api_Cell, B_ar_eareapiCell16, B_api_Page, B_pagemenddraw_Codes, *, ↓reduceIte, Nat.reduceEqDiff, Nat.reduceAdd, Nat.reduceLT, Nat.reduceMul]
    have e0 := e_draw_Codes_Page_0_w p h
    exact e0
  · try simp only [↓Da, Ua, c_draw_Codes_Page_2, B_api_Cell, B_ar_eareapiCell16, B_api_Page, B_pagemenddraw_Codes, *, ↓reduceIte, Nat.reduceEqDiff, Nat.reduceAdd, Nat.reduceLT, Nat.reduceMul]
    have e0 := e_draw_Codes_Page_1 p h
    exact e0


def S_draw_Codes_Page (b0 : T_pagemenddraw_Codes) (x1 : Int) : Option (T_api_Page × T_pagemenddraw_Codes) :=
  Option.bind (S_draw_Codes_Next b0 50) fun r1 =>
  Option.bind (S_draw_Codes_Next r1.2 10) fun r4 =>
  if ((r4.1 : Int) == 9) then
    Option.bind (S_draw_Codes_Next r4.2 2) fun r8 =>
    S_draw_Codes_Page_2 r8.2 (⟨0, 0, (Vector.replicate 16 (⟨false, []⟩ : T_api_Cell))⟩ : T_api_Page) (⟨x1, (IntKind.wrap .i64 (1099511627776 - r8.1)), (Vector.replicate 16 (⟨false, []⟩ : T_api_Cell))⟩ : T_api_Page)
  else
    S_draw_Codes_Page_2 r4.2 (⟨0, 0, (Vector.replicate 16 (⟨false, []⟩ : T_api_Cell))⟩ : T_api_Page) (⟨x1, r1.1, (Vector.replicate 16 (⟨false, []⟩ : T_api_Cell))⟩ : T_api_Page)

theorem e_draw_Codes_Page_top {b0 : T_pagemenddraw_Codes} {x1 : Int} {o : T_api_Page × T_pagemenddraw_Codes} (h : S_draw_Codes_Page b0 x1 = some o) :
    rk (tabOf p) f_draw_Codes_Page 1 [] (X (tabOf p) c_draw_Codes_Page ⟨[(0, .ptr 0 0), (1, .p (.i .i64 x1))], [.box (List.map AV.p (e_pagemenddraw_Codes b0))]⟩) = d_draw_Codes_Page o := by
  unfold S_draw_Codes_Page at h
  obtain ⟨r1, h2, h⟩ := bi h
  have f3 : ∀ ws new s, boxesAt ws s [0] [List.map AV.p (e_pagemenddraw_Codes b0)] → (callR2 (AF (tabOf p)) i_draw_Codes_Next ([.ptr 0 0, .p (.i .i64 50)], ws) 0 new).run s = some ⟨.p (.i .i64 r1.1), ws ++ [(0, .box (List.map AV.p (e_pagemenddraw_Codes r1.2)))]⟩ := callR2_ptrs (args' := [.ptr 0 0, .p (.i .i64 50)]) (bs := [0]) (css := [List.map AV.p (e_pagemenddraw_Codes b0)]) (css' := [List.map AV.p (e_pagemenddraw_Codes r1.2)]) rfl rfl rfl (by simp [allPlain, all_plain_mapp]) (e_draw_Codes_Next p h2) rfl rfl (by simp [allPlain, all_plain_mapp])
  try simp only [Nf] at f3
  obtain ⟨r4, h5, h⟩ := bi h
  have f6 : ∀ ws new s, boxesAt ws s [0] [List.map AV.p (e_pagemenddraw_Codes r1.2)] → (callR2 (AF (tabOf p)) i_draw_Codes_Next ([.ptr 0 0, .p (.i .i64 10)], ws) 0 new).run s = some ⟨.p (.i .i64 r4.1), ws ++ [(0, .box (List.map AV.p (e_pagemenddraw_Codes r4.2)))]⟩ := callR2_ptrs (args' := [.ptr 0 0, .p (.i .i64 10)]) (bs := [0]) (css := [List.map AV.p (e_pagemenddraw_Codes r1.2)]) (css' := [List.map AV.p (e_pagemenddraw_Codes r4.2)]) rfl rfl rfl (by simp [allPlain, all_plain_mapp]) (e_draw_Codes_Next p h5) rfl rfl (by simp [allPlain, all_plain_mapp])
  try simp only [Nf] at f6
  try simp only [↓Da, Ua, c_draw_Codes_Page, B_api_Cell, B_ar_eareapiCell16, B_api_Page, B_pagemenddraw_Codes, *, ↓reduceIte, Nat.reduceEqDiff, Nat.reduceAdd, Nat.reduceLT, Nat.reduceMul]
  rcases ite_inv h with ⟨h7, h⟩ | ⟨h7, h⟩
  · obtain ⟨r8, h9, h⟩ := bi h
    have f10 : ∀ ws new s, boxesAt ws s [0] [List.map AV.p (e_pagemenddraw_Codes r4.2)] → (callR2 (AF (tabOf p)) i_draw_Codes_Next ([.ptr 0 0, .p (.i .i64 2)], ws) 0 new).run s = some ⟨.p (.i .i64 r8.1), ws ++ [(0, .box (List.map AV.p (e_pagemenddraw_Codes r8.2)))]⟩ := callR2_ptrs (args' := [.ptr 0 0, .p (.i .i64 2)]) (bs := [0]) (css := [List.map AV.p (e_pagemenddraw_Codes r4.2)]) (css' := [List.map AV.p (e_pagemenddraw_Codes r8.2)]) rfl rfl rfl (by simp [allPlain, all_plain_mapp]) (e_draw_Codes_Next p h9) rfl rfl (by simp [allPlain, all_plain_mapp])
    try simp only [Nf] at f10
    try simp only [↓Da, Ua, c_draw_Codes_Page, B_api_Cell, B_ar_eareapiCell16, B_api_Page, B_pagemenddraw_Codes, *, ↓reduceIte, Nat.reduceEqDiff, Nat.reduceAdd, Nat.reduceLT, Nat.reduceMul]
    have e0 := e_draw_Codes_Page_2 p h
    exact e0
  · try simp only [↓Da, Ua, c_draw_Codes_Page, B_api_Cell, B_ar_eareapiCell16, B_api_Page, B_pagemenddraw_Codes, *, ↓reduceIte, Nat.reduceEqDiff, Nat.reduceAdd, Nat.reduceLT, Nat.reduceMul]
    have e0 := e_draw_Codes_Page_2 p h
    exact e0


theorem e_draw_Codes_Page {b0 : T_pagemenddraw_Codes} {x1 : Int} {o : T_api_Page × T_pagemenddraw_Codes} (h : S_draw_Codes_Page b0 x1 = some o) : AF (tabOf p) i_draw_Codes_Page [.ptr 0 0, .p (.i .i64 x1)] [.box (List.map AV.p (e_pagemenddraw_Codes b0))] = d_draw_Codes_Page o :=
  (AF_rk (tabOf p) (t_draw_Codes_Page p) rfl).trans (e_draw_Codes_Page_top p h)


end
end Go.Am
end

section
namespace Go.Am
set_option maxRecDepth 8000
set_option maxHeartbeats 4000000
set_option linter.unusedSimpArgs false
set_option linter.unusedVariables false

noncomputable section
variable (p : FuncId → Option (List AV → List Blk → Option Res))

/-! (*pagemend/pagemenddraw.Codes).OddPage -/

def d_draw_Codes_OddPage  (r : T_api_Page × T_pagemenddraw_Codes) : Option Res := some (.data (e_api_Page r.1), [.box (List.map AV.p (e_pagemenddraw_Codes r.2))])

def S_draw_Codes_OddPage (b0 : T_pagemenddraw_Codes) (x1 : T_api_Page) : Option (T_api_Page × T_pagemenddraw_Codes) :=
  Option.bind (S_draw_Codes_Next b0 4) fun r1 =>
  if ((r1.1 : Int) == 0) then
    Option.bind (S_draw_Codes_Int r1.2) fun r5 =>
    some ((⟨r5.1, x1.LSN, x1.Cells⟩ : T_api_Page), r5.2)
  else
    if ((r1.1 : Int) == 1) then
      Option.bind (S_draw_Codes_Int r1.2) fun r9 =>
      some ((⟨x1.ID, r9.1, x1.Cells⟩ : T_api_Page), r9.2)
    else
      if ((r1.1 : Int) == 2) then
        Option.bind (S_draw_Codes_Next r1.2 16) fun r13 =>
        Option.bind (S_draw_Codes_Next r13.2 2) fun r16 =>
        Option.bind (S_draw_Codes_Data r16.2) fun r19 =>
        Option.bind (inb 16 r13.1) fun u22 =>
        Option.bind (vget x1.Cells r13.1) fun y25 =>
        some ((⟨x1.ID, x1.LSN, (vset x1.Cells r13.1 (⟨((r16.1 : Int) == 1), r19.1⟩ : T_api_Cell))⟩ : T_api_Page), r19.2)
      else
        if ((r1.1 : Int) == 3) then
          Option.bind (S_draw_Codes_Next r1.2 16) fun r29 =>
          Option.bind (S_draw_Codes_Cell r29.2) fun r32 =>
          Option.bind (inb 16 r29.1) fun u35 =>
          Option.bind (vget x1.Cells r29.1) fun y38 =>
          some ((⟨x1.ID, x1.LSN, (vset x1.Cells r29.1 r32.1)⟩ : T_api_Page), r32.2)
        else
          some (x1, r1.2)

theorem e_draw_Codes_OddPage_top {b0 : T_pagemenddraw_Codes} {x1 : T_api_Page} {o : T_api_Page × T_pagemenddraw_Codes} (h : S_draw_Codes_OddPage b0 x1 = some o) :
    rk (tabOf p) f_draw_Codes_OddPage 1 [] (X (tabOf p) c_draw_Codes_OddPage ⟨[(0, .ptr 0 0), (1, .data (e_api_Page x1))], [.box (List.map AV.p (e_pagemenddraw_Codes b0))]⟩) = d_draw_Codes_OddPage o := by
  unfold S_draw_Codes_OddPage at h
  obtain ⟨r1, h2, h⟩ := bi h
  have f3 : ∀ ws new s, boxesAt ws s [0] [List.map AV.p (e_pagemenddraw_Codes b0)] → (callR2 (AF (tabOf p)) i_draw_Codes_Next ([.ptr 0 0, .p (.i .i64 4)], ws) 0 new).run s = some ⟨.p (.i .i64 r1.1), ws ++ [(0, .box (List.map AV.p (e_pagemenddraw_Codes r1.2)))]⟩ := callR2_ptrs (args' := [.ptr 0 0, .p (.i .i64 4)]) (bs := [0]) (css := [List.map AV.p (e_pagemenddraw_Codes b0)]) (css' := [List.map AV.p (e_pagemenddraw_Codes r1.2)]) rfl rfl rfl (by simp [allPlain, all_plain_mapp]) (e_draw_Codes_Next p h2) rfl rfl (by simp [allPlain, all_plain_mapp])
  try simp only [Nf] at f3
  try simp only [↓Da, Ua, c_draw_Codes_OddPage, B_api_Cell, B_ar_eareapiCell16, B_api_Page, B_pagemenddraw_Codes, *, ↓reduceIte, Nat.reduceEqDiff, Nat.reduceAdd, Nat.reduceLT, Nat.reduceMul]
  rcases ite_inv h with ⟨h4, h⟩ | ⟨h4, h⟩
  · obtain ⟨r5, h6, h⟩ := bi h
    have f7 : ∀ ws new s, boxesAt ws s [0] [List.map AV.p (e_pagemenddraw_Codes r1.2)] → (callR2 (AF (tabOf p)) i_draw_Codes_Int ([.ptr 0 0], ws) 0 new).run s = some ⟨.p (.i .i64 r5.1), ws ++ [(0, .box (List.map AV.p (e_pagemenddraw_Codes r5.2)))]⟩ := callR2_ptrs (args' := [.ptr 0 0]) (bs := [0]) (css := [List.map AV.p (e_pagemenddraw_Codes r1.2)]) (css' := [List.map AV.p (e_pagemenddraw_Codes r5.2)]) rfl rfl rfl (by simp [allPlain, all_plain_mapp]) (e_draw_Codes_Int p h6) rfl rfl (by simp [allPlain, all_plain_mapp])
    try simp only [Nf] at f7
    obtain rfl := sj h
    try simp only [↓Da, Ua, c_draw_Codes_OddPage, B_api_Cell, B_ar_eareapiCell16, B_api_Page, B_pagemenddraw_Codes, z_draw_Codes_OddPage, *, ↓reduceIte, Nat.reduceEqDiff, Nat.reduceAdd, Nat.reduceLT, Nat.reduceMul]
    rfl
  · try simp only [↓Da, Ua, c_draw_Codes_OddPage, B_api_Cell, B_ar_eareapiCell16, B_api_Page, B_pagemenddraw_Codes, *, ↓reduceIte, Nat.reduceEqDiff, Nat.reduceAdd, Nat.reduceLT, Nat.reduceMul]
    rcases ite_inv h with ⟨h8, h⟩ | ⟨h8, h⟩
    · obtain ⟨r9, h10, h⟩ := bi h
      have f11 : ∀ ws new s, boxesAt ws s [0] [List.map AV.p (e_pagemenddraw_Codes r1.2)] → (callR2 (AF (tabOf p)) i_draw_Codes_Int ([.ptr 0 0], ws) 0 new).run s = some ⟨.p (.i .i64 r9.1), ws ++ [(0, .box (List.map AV.p (e_pagemenddraw_Codes r9.2)))]⟩ := callR2_ptrs (args' := [.ptr 0 0]) (bs := [0]) (css := [List.map AV.p (e_pagemenddraw_Codes r1.2)]) (css' := [List.map AV.p (e_pagemenddraw_Codes r9.2)]) rfl rfl rfl (by simp [allPlain, all_plain_mapp]) (e_draw_Codes_Int p h10) rfl rfl (by simp [allPlain, all_plain_mapp])
      try simp only [Nf] at f11
      obtain rfl := sj h
      try simp only [↓Da, Ua, c_draw_Codes_OddPage, B_api_Cell, B_ar_eareapiCell16, B_api_Page, B_pagemenddraw_Codes, z_draw_Codes_OddPage, *, ↓reduceIte, Nat.reduceEqDiff, Nat.reduceAdd, Nat.reduceLT, Nat.reduceMul]
      rfl
    · try simp only [↓Da, Ua, c_draw_Codes_OddPage, B_api_Cell, B_ar_eareapiCell16, B_api_Page, B_pagemenddraw_Codes, *, ↓reduceIte, Nat.reduceEqDiff, Nat.reduceAdd, Nat.reduceLT, Nat.reduceMul]
      rcases ite_inv h with ⟨h12, h⟩ | ⟨h12, h⟩
      · obtain ⟨r13, h14, h⟩ := bi h
        have f15 : ∀ ws new s, boxesAt ws s [0] [List.map AV.p (e_pagemenddraw_Codes r1.2)] → (callR2 (AF (tabOf p)) i_draw_Codes_Next ([.ptr 0 0, .p (.i .i64 16)], ws) 0 new).run s = some ⟨.p (.i .i64 r13.1), ws ++ [(0, .box (List.map AV.p (e_pagemenddraw_Codes r13.2)))]⟩ := callR2_ptrs (args' := [.ptr 0 0, .p (.i .i64 16)]) (bs := [0]) (css := [List.map AV.p (e_pagemenddraw_Codes r1.2)]) (css' := [List.map AV.p (e_pagemenddraw_Codes r13.2)]) rfl rfl rfl (by simp [allPlain, all_plain_mapp]) (e_draw_Codes_Next p h14) rfl rfl (by simp [allPlain, all_plain_mapp])
        try simp only [Nf] at f15
        obtain ⟨r16, h17, h⟩ := bi h
        have f18 : ∀ ws new s, boxesAt ws s [0] [List.map AV.p (e_pagemenddraw_Codes r13.2)] → (callR2 (AF (tabOf p)) i_draw_Codes_Next ([.ptr 0 0, .p (.i .i64 2)], ws) 0 new).run s = some ⟨.p (.i .i64 r16.1), ws ++ [(0, .box (List.map AV.p (e_pagemenddraw_Codes r16.2)))]⟩ := callR2_ptrs (args' := [.ptr 0 0, .p (.i .i64 2)]) (bs := [0]) (css := [List.map AV.p (e_pagemenddraw_Codes r13.2)]) (css' := [List.map AV.p (e_pagemenddraw_Codes r16.2)]) rfl rfl rfl (by simp [allPlain, all_plain_mapp]) (e_draw_Codes_Next p h17) rfl rfl (by simp [allPlain, all_plain_mapp])
        try simp only [Nf] at f18
        obtain ⟨r19, h20, h⟩ := bi h
        have f21 : ∀ ws new s, boxesAt ws s [0] [List.map AV.p (e_pagemenddraw_Codes r16.2)] → (callR2 (AF (tabOf p)) i_draw_Codes_Data ([.ptr 0 0], ws) 0 new).run s = some ⟨.p (.s r19.1), ws ++ [(0, .box (List.map AV.p (e_pagemenddraw_Codes r19.2)))]⟩ := callR2_ptrs (args' := [.ptr 0 0]) (bs := [0]) (css := [List.map AV.p (e_pagemenddraw_Codes r16.2)]) (css' := [List.map AV.p (e_pagemenddraw_Codes r19.2)]) rfl rfl rfl (by simp [allPlain, all_plain_mapp]) (e_draw_Codes_Data p h20) rfl rfl (by simp [allPlain, all_plain_mapp])
        try simp only [Nf] at f21
        obtain ⟨u22, h23, h⟩ := bi h
        have f24 : (0 ≤ (r13.1 : Int) ∧ (r13.1 : Int) < ((16 : Nat) : Int)) = True := eq_true (inb_iff h23)
        obtain ⟨y25, h26, h⟩ := bi h
        have f27 : spl (e_api_Page x1) (2 + Int.toNat r13.1 * 2) (e_api_Cell (⟨((r16.1 : Int) == 1), r19.1⟩ : T_api_Cell)) = some (e_api_Page (⟨x1.ID, x1.LSN, (vset x1.Cells r13.1 (⟨((r16.1 : Int) == 1), r19.1⟩ : T_api_Cell))⟩ : T_api_Page)) := by
          have e0 := (spl_spl (sub_api_Page_Cells x1) (ar_spl (v := x1.Cells) len_api_Cell (vget_lt h26) (⟨((r16.1 : Int) == 1), r19.1⟩ : T_api_Cell)) (spl_api_Page_Cells x1 _))
          exact e0
        try simp only [Nf] at f27
        obtain rfl := sj h
        try simp only [↓Da, Ua, c_draw_Codes_OddPage, B_api_Cell, B_ar_eareapiCell16, B_api_Page, B_pagemenddraw_Codes, z_draw_Codes_OddPage, *, ↓reduceIte, Nat.reduceEqDiff, Nat.reduceAdd, Nat.reduceLT, Nat.reduceMul]
        rfl
      · try simp only [↓Da, Ua, c_draw_Codes_OddPage, B_api_Cell, B_ar_eareapiCell16, B_api_Page, B_pagemenddraw_Codes, *, ↓reduceIte, Nat.reduceEqDiff, Nat.reduceAdd, Nat.reduceLT, Nat.reduceMul]
        rcases ite_inv h with ⟨h28, h⟩ | ⟨h28, h⟩
        · obtain ⟨r29, h30, h⟩ := bi h
          have f31 : ∀ ws new s, boxesAt ws s [0] [List.map AV.p (e_pagemenddraw_Codes r1.2)] → (callR2 (AF (tabOf p)) i_draw_Codes_Next ([.ptr 0 0, .p (.i .i64 16)], ws) 0 new).run s = some ⟨.p (.i .i64 r29.1), ws ++ [(0, .box (List.map AV.p (e_pagemenddraw_Codes r29.2)))]⟩ := callR2_ptrs (args' := [.ptr 0 0, .p (.i .i64 16)]) (bs := [0]) (css := [List.map AV.p (e_pagemenddraw_Codes r1.2)]) (css' := [List.map AV.p (e_pagemenddraw_Codes r29.2)]) rfl rfl rfl (by simp [allPlain, all_plain_mapp]) (e_draw_Codes_Next p h30) rfl rfl (by simp [allPlain, all_plain_mapp])
          try simp only [Nf] at f31
          obtain ⟨r32, h33, h⟩ := bi h
          have f34 : ∀ ws new s, boxesAt ws s [0] [List.map AV.p (e_pagemenddraw_Codes r29.2)] → (callR2 (AF (tabOf p)) i_draw_Codes_Cell ([.ptr 0 0], ws) 0 new).run s = some ⟨.data (e_api_Cell r32.1), ws ++ [(0, .box (List.map AV.p (e_pagemenddraw_Codes r32.2)))]⟩ := callR2_ptrs (args' := [.ptr 0 0]) (bs := [0]) (css := [List.map AV.p (e_pagemenddraw_Codes r29.2)]) (css' := [List.map AV.p (e_pagemenddraw_Codes r32.2)]) rfl rfl rfl (by simp [allPlain, all_plain_mapp]) (e_draw_Codes_Cell p h33) rfl rfl (by simp [allPlain, all_plain_mapp])
          try simp only [Nf] at f34
          obtain ⟨u35, h36, h⟩ := bi h
          have f37 : (0 ≤ (r29.1 : Int) ∧ (r29.1 : Int) < ((16 : Nat) : Int)) = True := eq_true (inb_iff h36)
          obtain ⟨y38, h39, h⟩ := bi h
          have f40 : spl (e_api_Page x1) (2 + Int.toNat r29.1 * 2) (e_api_Cell r32.1) = some (e_api_Page (⟨x1.ID, x1.LSN, (vset x1.Cells r29.1 r32.1)⟩ : T_api_Page)) := by
            have e0 := (spl_spl (sub_api_Page_Cells x1) (ar_spl (v := x1.Cells) len_api_Cell (vget_lt h39) r32.1) (spl_api_Page_Cells x1 _))
            exact e0
          try simp only [Nf] at f40
          obtain rfl := sj h
          try simp only [↓Da, Ua, c_draw_Codes_OddPage, B_api_Cell, B_ar_eareapiCell16, B_api_Page, B_pagemenddraw_Codes, z_draw_Codes_OddPage, *, ↓reduceIte, Nat.reduceEqDiff, Nat.reduceAdd, Nat.reduceLT, Nat.reduceMul]
          rfl
        · obtain rfl := sj h
          try simp only [↓Da, Ua, c_draw_Codes_OddPage, B_api_Cell, B_ar_eareapiCell16, B_api_Page, B_pagemenddraw_Codes, z_draw_Codes_OddPage, *, ↓reduceIte, Nat.reduceEqDiff, Nat.reduceAdd, Nat.reduceLT, Nat.reduceMul]
          rfl


theorem e_draw_Codes_OddPage {b0 : T_pagemenddraw_Codes} {x1 : T_api_Page} {o : T_api_Page × T_pagemenddraw_Codes} (h : S_draw_Codes_OddPage b0 x1 = some o) : AF (tabOf p) i_draw_Codes_OddPage [.ptr 0 0, .data (e_api_Page x1)] [.box (List.map AV.p (e_pagemenddraw_Codes b0))] = d_draw_Codes_OddPage o :=
  (AF_rk (tabOf p) (t_draw_Codes_OddPage p) rfl).trans (e_draw_Codes_OddPage_top p h)

/-! pagemend/page.Blank -/

def d_page_Blank  (r : (List UInt8)) : Option Res := some (.p (.s r), [])

def S_page_Blank  : Option ((List UInt8)) :=
  Option.bind (S_strings_Repeat ([0]) 256) fun r1 =>
  some r1

theorem e_page_Blank_top  {o : (List UInt8)} (h : S_page_Blank = some o) :
    rk (tabOf p) f_page_Blank 0 [] (X (tabOf p) c_page_Blank ⟨[], []⟩) = d_page_Blank o := by
  unfold S_page_Blank at h
  obtain ⟨r1, h2, h⟩ := bi h
  have f3 := q_strings_Repeat p h2
  try simp only [Nf] at f3
  obtain rfl := sj h
  try simp only [↓Da, Ua, c_page_Blank, z_page_Blank, *, ↓reduceIte, Nat.reduceEqDiff, Nat.reduceAdd, Nat.reduceLT, Nat.reduceMul]
  rfl


theorem e_page_Blank  {o : (List UInt8)} (h : S_page_Blank = some o) : AF (tabOf p) i_page_Blank [] [] = d_page_Blank o :=
  (AF_rk (tabOf p) (t_page_Blank p) rfl).trans (e_page_Blank_top p h)

theorem q_page_Blank  {o : (List UInt8)} (h : S_page_Blank = some o) : ∀ ws new st, (callR2 (AF (tabOf p)) i_page_Blank ([], ws) 0 new).run st = some ⟨.p (.s o), ws⟩ := callR2_plain rfl (e_page_Blank p h) rfl

/-! pagemend/pagemendref02.Blank -/

def d_ref02_Blank  (r : (List UInt8)) : Option Res := some (.p (.s r), [])

def S_ref02_Blank  : Option ((List UInt8)) :=
  Option.bind (S_ref02_zeros 256) fun r1 =>
  some r1

theorem e_ref02_Blank_top  {o : (List UInt8)} (h : S_ref02_Blank = some o) :
    rk (tabOf p) f_ref02_Blank 0 [] (X (tabOf p) c_ref02_Blank ⟨[], []⟩) = d_ref02_Blank o := by
  unfold S_ref02_Blank at h
  obtain ⟨r1, h2, h⟩ := bi h
  have f3 := q_ref02_zeros p h2
  try simp only [Nf] at f3
  obtain rfl := sj h
  try simp only [↓Da, Ua, c_ref02_Blank, z_ref02_Blank, *, ↓reduceIte, Nat.reduceEqDiff, Nat.reduceAdd, Nat.reduceLT, Nat.reduceMul]
  rfl


theorem e_ref02_Blank  {o : (List UInt8)} (h : S_ref02_Blank = some o) : AF (tabOf p) i_ref02_Blank [] [] = d_ref02_Blank o :=
  (AF_rk (tabOf p) (t_ref02_Blank p) rfl).trans (e_ref02_Blank_top p h)

theorem q_ref02_Blank  {o : (List UInt8)} (h : S_ref02_Blank = some o) : ∀ ws new st, (callR2 (AF (tabOf p)) i_ref02_Blank ([], ws) 0 new).run st = some ⟨.p (.s o), ws⟩ := callR2_plain rfl (e_ref02_Blank p h) rfl

/-! pagemend/pagemendlaw02.sealed -/

def d_law02_sealed  (r : (List UInt8) × T_pagemenddraw_Codes) : Option Res := some (.p (.s r.1), [.box (List.map AV.p (e_pagemenddraw_Codes r.2))])

def d_law02_sealed_0  (o : (Int × T_pagemenddraw_Codes × (List Int)) ⊕ ((List UInt8) × T_pagemenddraw_Codes)) : Option Res := match o with
  | .inl s => rk (tabOf p) f_law02_sealed 1 [.bl 0, .sq (.keep [5] c_law02_sealed_1)] (X (tabOf p) (.lp 2 [0, 5, 6] c_law02_sealed_0) ⟨[(0, .ptr 0 0), (5, .slr 1 0 (List.length s.2.2)), (6, .p (.i .i64 s.1))], [.box (List.map AV.p (e_pagemenddraw_Codes s.2.1)), .arr true 1 (List.map (r_i .u8) s.2.2)]⟩)
  | .inr o => d_law02_sealed o

def S_law02_sealed_1 (b0 : T_pagemenddraw_Codes) (l1 : List Int) : Option ((List UInt8) × T_pagemenddraw_Codes) :=
  Option.bind (slcS l1 none (some 244)) fun m1 =>
  Option.bind (S_ref02_Seal (toStr m1)) fun r4 =>
  some (r4, b0)

theorem e_law02_sealed_1 {b0 : T_pagemenddraw_Codes} {l1 : List Int} {w1 : Bool} {o : (List UInt8) × T_pagemenddraw_Codes} (h : S_law02_sealed_1 b0 l1 = some o) :
    rk (tabOf p) f_law02_sealed 1 [] (X (tabOf p) c_law02_sealed_1 ⟨[(5, .slr 1 0 (List.length l1))], [.box (List.map AV.p (e_pagemenddraw_Codes b0)), .arr w1 1 (List.map (r_i .u8) l1)]⟩) = d_law02_sealed o := by
  unfold S_law02_sealed_1 at h
  obtain ⟨m1, h2, h⟩ := bi h
  have f3 : sliceL 1 (.p (.sl 1 (List.map (r_i .u8) l1))) none (some (.p (.i .i64 244))) = some (.p (.sl 1 (List.map (r_i .u8) m1))) := sliceL_ok (k := .i64) (lo := none) (hi := (some 244)) h2
  try simp only [Nf] at f3
  obtain ⟨r4, h5, h⟩ := bi h
  have f6 := q_ref02_Seal p h5
  try simp only [Nf] at f6
  obtain rfl := sj h
  try simp only [↓Da, Ua, c_law02_sealed_1, z_law02_sealed, *, ↓reduceIte, Nat.reduceEqDiff, Nat.reduceAdd, Nat.reduceLT, Nat.reduceMul]
  rfl


def S_law02_sealed_0 (x6 : Int) (b0 : T_pagemenddraw_Codes) (l1 : List Int) : Option (((Int × T_pagemenddraw_Codes × (List Int)) ⊕ ((List UInt8) × T_pagemenddraw_Codes))) :=
  if (decide (x6 > 0)) then
    Option.bind (S_draw_Codes_Next b0 244) fun r2 =>
    Option.bind (S_draw_Codes_Next r2.2 256) fun r5 =>
    Option.bind (idx l1 r2.1) fun y8 =>
    Option.bind (some (List.set l1 (Int.toNat r2.1) (IntKind.wrap .u8 r5.1))) fun m12 =>
    some (.inl ((IntKind.wrap .i64 (x6 - 1)), r5.2, m12))
  else
    Option.map (fun o => .inr o) (S_law02_sealed_1 b0 l1)

theorem e_law02_sealed_0 {x6 : Int} {b0 : T_pagemenddraw_Codes} {l1 : List Int} {o : ((Int × T_pagemenddraw_Codes × (List Int)) ⊕ ((List UInt8) × T_pagemenddraw_Codes))} (h : S_law02_sealed_0 x6 b0 l1 = some o) :
    rk (tabOf p) f_law02_sealed 1 [.lo 2 [0, 5, 6] c_law02_sealed_0, .bl 0, .sq (.keep [5] c_law02_sealed_1)] (X (tabOf p) c_law02_sealed_0 ⟨[(0, .ptr 0 0), (5, .slr 1 0 (List.length l1)), (6, .p (.i .i64 x6))], [.box (List.map AV.p (e_pagemenddraw_Codes b0)), .arr true 1 (List.map (r_i .u8) l1)]⟩) = (d_law02_sealed_0 p) o := by
  unfold S_law02_sealed_0 at h
  rcases ite_inv h with ⟨h1, h⟩ | ⟨h1, h⟩
  · obtain ⟨r2, h3, h⟩ := bi h
    have f4 : ∀ ws new s, boxesAt ws s [0] [List.map AV.p (e_pagemenddraw_Codes b0)] → (callR2 (AF (tabOf p)) i_draw_Codes_Next ([.ptr 0 0, .p (.i .i64 244)], ws) 0 new).run s = some ⟨.p (.i .i64 r2.1), ws ++ [(0, .box (List.map AV.p (e_pagemenddraw_Codes r2.2)))]⟩ := callR2_ptrs (args' := [.ptr 0 0, .p (.i .i64 244)]) (bs := [0]) (css := [List.map AV.p (e_pagemenddraw_Codes b0)]) (css' := [List.map AV.p (e_pagemenddraw_Codes r2.2)]) rfl rfl rfl (by simp [allPlain, all_plain_mapp]) (e_draw_Codes_Next p h3) rfl rfl (by simp [allPlain, all_plain_mapp])
    try simp only [Nf] at f4
    obtain ⟨r5, h6, h⟩ := bi h
    have f7 : ∀ ws new s, boxesAt ws s [0] [List.map AV.p (e_pagemenddraw_Codes r2.2)] → (callR2 (AF (tabOf p)) i_draw_Codes_Next ([.ptr 0 0, .p (.i .i64 256)], ws) 0 new).run s = some ⟨.p (.i .i64 r5.1), ws ++ [(0, .box (List.map AV.p (e_pagemenddraw_Codes r5.2)))]⟩ := callR2_ptrs (args' := [.ptr 0 0, .p (.i .i64 256)]) (bs := [0]) (css := [List.map AV.p (e_pagemenddraw_Codes r2.2)]) (css' := [List.map AV.p (e_pagemenddraw_Codes r5.2)]) rfl rfl rfl (by simp [allPlain, all_plain_mapp]) (e_draw_Codes_Next p h6) rfl rfl (by simp [allPlain, all_plain_mapp])
    try simp only [Nf] at f7
    obtain ⟨y8, h9, h⟩ := bi h
    have f10 := getq_idx (r := (r_i .u8)) h9
    try simp only [Nf] at f10
    have f11 : (0 ≤ (r2.1 : Int) ∧ (r2.1 : Int) < (((List.length l1) : Nat) : Int)) = True := eq_true (by have e0 := idx_inb h9; (try simp only [List.length_cons, List.length_nil, Nat.zero_add] at e0); omega)
    obtain ⟨m12, h13, h⟩ := bi h
    have f14 : List.set (List.map (r_i .u8) l1) (Int.toNat r2.1) ((r_i .u8) (IntKind.wrap .u8 r5.1)) = List.map (r_i .u8) m12 := by
      rw [← Option.some.inj h13, List.map_set]
    try simp only [Nf] at f14
    have g15 : List.length m12 = List.length l1 := by rw [← Option.some.inj h13, List.length_set]
    obtain rfl := sj h
    try simp only [↓Da, Ua, c_law02_sealed_0, B_pagemenddraw_Codes, *, ↓reduceIte, Nat.reduceEqDiff, Nat.reduceAdd, Nat.reduceLT, Nat.reduceMul]
    try simp only [d_law02_sealed_0, g15]
    try rfl
  · obtain ⟨o', h', rfl⟩ := mi h
    try simp only [↓Da, Ua, c_law02_sealed_0, B_pagemenddraw_Codes, *, ↓reduceIte, Nat.reduceEqDiff, Nat.reduceAdd, Nat.reduceLT, Nat.reduceMul]
    have e0 := e_law02_sealed_1 p (w1 := true) h'
    exact e0


def W_law02_sealed_0  (s : Int × T_pagemenddraw_Codes × (List Int)) : Option ((List UInt8) × T_pagemenddraw_Codes) :=
  whileO (fun s => S_law02_sealed_0  s.1 s.2.1 s.2.2) s

theorem e_law02_sealed_0_w  {s : Int × T_pagemenddraw_Codes × (List Int)} {o : (List UInt8) × T_pagemenddraw_Codes} (h : W_law02_sealed_0  s = some o) :
    rk (tabOf p) f_law02_sealed 1 [.bl 0, .sq (.keep [5] c_law02_sealed_1)] (X (tabOf p) (.lp 2 [0, 5, 6] c_law02_sealed_0) ⟨[(0, .ptr 0 0), (5, .slr 1 0 (List.length s.2.2)), (6, .p (.i .i64 s.1))], [.box (List.map AV.p (e_pagemenddraw_Codes s.2.1)), .arr true 1 (List.map (r_i .u8) s.2.2)]⟩) = d_law02_sealed o := by
  have h0 : whileO (fun s => S_law02_sealed_0  s.1 s.2.1 s.2.2) s = some o := h
  exact while_ind (P := fun (s : Int × T_pagemenddraw_Codes × (List Int)) (o : (List UInt8) × T_pagemenddraw_Codes) => rk (tabOf p) f_law02_sealed 1 [.bl 0, .sq (.keep [5] c_law02_sealed_1)] (X (tabOf p) (.lp 2 [0, 5, 6] c_law02_sealed_0) ⟨[(0, .ptr 0 0), (5, .slr 1 0 (List.length s.2.2)), (6, .p (.i .i64 s.1))], [.box (List.map AV.p (e_pagemenddraw_Codes s.2.1)), .arr true 1 (List.map (r_i .u8) s.2.2)]⟩) = d_law02_sealed o) (fun s r hs => by rw [rk_lp]; exact e_law02_sealed_0 p hs) (fun s s1 r hs ih => by rw [rk_lp]; exact (e_law02_sealed_0 p hs).trans ih) h0

def S_law02_sealed (b0 : T_pagemenddraw_Codes) (x1 : List UInt8) : Option ((List UInt8) × T_pagemenddraw_Codes) :=
  Option.bind (S_draw_Codes_Next b0 4) fun r1 =>
  W_law02_sealed_0 (r1.1, r1.2, (toByt x1))

theorem e_law02_sealed_top {b0 : T_pagemenddraw_Codes} {x1 : List UInt8} {o : (List UInt8) × T_pagemenddraw_Codes} (h : S_law02_sealed b0 x1 = some o) :
    rk (tabOf p) f_law02_sealed 1 [] (X (tabOf p) c_law02_sealed ⟨[(0, .ptr 0 0), (1, .p (.s x1))], [.box (List.map AV.p (e_pagemenddraw_Codes b0))]⟩) = d_law02_sealed o := by
  unfold S_law02_sealed at h
  obtain ⟨r1, h2, h⟩ := bi h
  have f3 : ∀ ws new s, boxesAt ws s [0] [List.map AV.p (e_pagemenddraw_Codes b0)] → (callR2 (AF (tabOf p)) i_draw_Codes_Next ([.ptr 0 0, .p (.i .i64 4)], ws) 0 new).run s = some ⟨.p (.i .i64 r1.1), ws ++ [(0, .box (List.map AV.p (e_pagemenddraw_Codes r1.2)))]⟩ := callR2_ptrs (args' := [.ptr 0 0, .p (.i .i64 4)]) (bs := [0]) (css := [List.map AV.p (e_pagemenddraw_Codes b0)]) (css' := [List.map AV.p (e_pagemenddraw_Codes r1.2)]) rfl rfl rfl (by simp [allPlain, all_plain_mapp]) (e_draw_Codes_Next p h2) rfl rfl (by simp [allPlain, all_plain_mapp])
  try simp only [Nf] at f3
  try simp only [↓Da, Ua, c_law02_sealed, B_pagemenddraw_Codes, *, ↓reduceIte, Nat.reduceEqDiff, Nat.reduceAdd, Nat.reduceLT, Nat.reduceMul]
  have e0 := e_law02_sealed_0_w p h
  exact e0


theorem e_law02_sealed {b0 : T_pagemenddraw_Codes} {x1 : List UInt8} {o : (List UInt8) × T_pagemenddraw_Codes} (h : S_law02_sealed b0 x1 = some o) : AF (tabOf p) i_law02_sealed [.ptr 0 0, .p (.s x1)] [.box (List.map AV.p (e_pagemenddraw_Codes b0))] = d_law02_sealed o :=
  (AF_rk (tabOf p) (t_law02_sealed p) rfl).trans (e_law02_sealed_top p h)

/-! pagemend/page.placed -/

def d_page_placed  (r : Bool) : Option Res := some (.p (.b r), [])

def S_page_placed (x0 : T_api_Page) : Option (Bool) :=
  Option.bind (S_page_named x0.ID) fun r1 =>
  if r1 then
    if (decide (x0.LSN ≥ 0)) then
      some (decide (x0.LSN ≤ 1099511627776))
    else
      some false
  else
    some false

theorem e_page_placed_top {x0 : T_api_Page} {o : Bool} (h : S_page_placed x0 = some o) :
    rk (tabOf p) f_page_placed 0 [] (X (tabOf p) c_page_placed ⟨[(0, .data (e_api_Page x0))], []⟩) = d_page_placed o := by
  unfold S_page_placed at h
  obtain ⟨r1, h2, h⟩ := bi h
  have f3 := q_page_named p h2
  try simp only [Nf] at f3
  try simp only [↓Da, Ua, c_page_placed, B_api_Cell, B_ar_eareapiCell16, B_api_Page, *, ↓reduceIte, Nat.reduceEqDiff, Nat.reduceAdd, Nat.reduceLT, Nat.reduceMul]
  rcases ite_inv h with ⟨h4, h⟩ | ⟨h4, h⟩
  · try simp only [↓Da, Ua, c_page_placed, B_api_Cell, B_ar_eareapiCell16, B_api_Page, *, ↓reduceIte, Nat.reduceEqDiff, Nat.reduceAdd, Nat.reduceLT, Nat.reduceMul]
    rcases ite_inv h with ⟨h5, h⟩ | ⟨h5, h⟩
    · obtain rfl := sj h
      try simp only [↓Da, Ua, c_page_placed, B_api_Cell, B_ar_eareapiCell16, B_api_Page, z_page_placed, *, ↓reduceIte, Nat.reduceEqDiff, Nat.reduceAdd, Nat.reduceLT, Nat.reduceMul]
      rfl
    · obtain rfl := sj h
      try simp only [↓Da, Ua, c_page_placed, B_api_Cell, B_ar_eareapiCell16, B_api_Page, z_page_placed, *, ↓reduceIte, Nat.reduceEqDiff, Nat.reduceAdd, Nat.reduceLT, Nat.reduceMul]
      rfl
  · obtain rfl := sj h
    try simp only [↓Da, Ua, c_page_placed, B_api_Cell, B_ar_eareapiCell16, B_api_Page, z_page_placed, *, ↓reduceIte, Nat.reduceEqDiff, Nat.reduceAdd, Nat.reduceLT, Nat.reduceMul]
    rfl


theorem e_page_placed {x0 : T_api_Page} {o : Bool} (h : S_page_placed x0 = some o) : AF (tabOf p) i_page_placed [.data (e_api_Page x0)] [] = d_page_placed o :=
  (AF_rk (tabOf p) (t_page_placed p) rfl).trans (e_page_placed_top p h)

theorem q_page_placed {x0 : T_api_Page} {o : Bool} (h : S_page_placed x0 = some o) : ∀ ws new st, (callR2 (AF (tabOf p)) i_page_placed ([.data (e_api_Page x0)], ws) 0 new).run st = some ⟨.p (.b o), ws⟩ := callR2_plain rfl (e_page_placed p h) rfl

/-! (*pagemend/page.builder).cell -/

def d_page_builder_cell  (r : T_page_builder) : Option Res := some (.tup [], [.box (List.map AV.p (e_page_builder r))])

def S_page_builder_cell_0 (x4 : Int) (b0 : T_page_builder) (b1 : T_api_Cell) : Option (T_page_builder) :=
  Option.bind (S_codec_Put b0.s_ x4 1) fun r1 =>
  Option.bind (catS r1 b1.Data) fun s5 =>
  Option.bind (S_strings_Repeat ([0]) (IntKind.wrap .i64 (12 - ((List.length b1.Data : Nat) : Int)))) fun r7 =>
  Option.bind (catS s5 r7) fun s11 =>
  some (⟨s11⟩ : T_page_builder)

theorem e_page_builder_cell_0 {x4 : Int} {b0 : T_page_builder} {b1 : T_api_Cell} {o : T_page_builder} (h : S_page_builder_cell_0 x4 b0 b1 = some o) :
    rk (tabOf p) f_page_builder_cell 1 [] (X (tabOf p) c_page_builder_cell_0 ⟨[(0, .ptr 0 0), (3, .ptr 1 0), (4, .p (.i .i64 x4))], [.box (List.map AV.p (e_page_builder b0)), .box (List.map AV.p (e_api_Cell b1))]⟩) = d_page_builder_cell o := by
  unfold S_page_builder_cell_0 at h
  obtain ⟨r1, h2, h⟩ := bi h
  have f3 := q_codec_Put p h2
  try simp only [Nf, U_page_builder] at f3
  have f4 : ∀ ws k new s, blksOf ((callR2 (AF (tabOf p)) i_codec_Put ([.p (.s b0.s_), .p (.i .i64 x4), .p (.i .i64 1)], ws) k new).reads s) = [] := callR2_reads_plain rfl
  try simp only [Nf, U_page_builder] at f4
  obtain ⟨s5, h6, h⟩ := bi h
  obtain ⟨r7, h8, h⟩ := bi h
  have f9 := q_strings_Repeat p h8
  try simp only [Nf, U_page_builder] at f9
  have f10 : ∀ ws k new s, blksOf ((callR2 (AF (tabOf p)) i_strings_Repeat ([.p (.s [0]), .p (.i .i64 (IntKind.wrap .i64 (12 - ((List.length b1.Data : Nat) : Int))))], ws) k new).reads s) = [] := callR2_reads_plain rfl
  try simp only [Nf, U_page_builder] at f10
  obtain ⟨s11, h12, h⟩ := bi h
  obtain rfl := sj h
  try simp only [↓Da, Ua, Ra, c_page_builder_cell_0, B_api_Cell, U_page_builder, z_page_builder_cell, *, ↓reduceIte, Nat.reduceEqDiff, Nat.reduceAdd, Nat.reduceLT, Nat.reduceMul, Nat.reduceBEq]
  rfl


def S_page_builder_cell (b0 : T_page_builder) (x1 : T_api_Cell) : Option (T_page_builder) :=
  if x1.Set then
    S_page_builder_cell_0 ((List.length x1.Data : Nat) : Int) b0 x1
  else
    S_page_builder_cell_0 255 b0 x1

theorem e_page_builder_cell_top {b0 : T_page_builder} {x1 : T_api_Cell} {o : T_page_builder} (h : S_page_builder_cell b0 x1 = some o) :
    rk (tabOf p) f_page_builder_cell 1 [] (X (tabOf p) c_page_builder_cell ⟨[(0, .ptr 0 0), (1, .data (e_api_Cell x1))], [.box (List.map AV.p (e_page_builder b0))]⟩) = d_page_builder_cell o := by
  unfold S_page_builder_cell at h
  rcases ite_inv h with ⟨h1, h⟩ | ⟨h1, h⟩
  · try simp only [↓Da, Ua, c_page_builder_cell, B_api_Cell, U_page_builder, *, ↓reduceIte, Nat.reduceEqDiff, Nat.reduceAdd, Nat.reduceLT, Nat.reduceMul]
    have e0 := e_page_builder_cell_0 p h
    exact e0
  · try simp only [↓Da, Ua, c_page_builder_cell, B_api_Cell, U_page_builder, *, ↓reduceIte, Nat.reduceEqDiff, Nat.reduceAdd, Nat.reduceLT, Nat.reduceMul]
    have e0 := e_page_builder_cell_0 p h
    exact e0


theorem e_page_builder_cell {b0 : T_page_builder} {x1 : T_api_Cell} {o : T_page_builder} (h : S_page_builder_cell b0 x1 = some o) : AF (tabOf p) i_page_builder_cell [.ptr 0 0, .data (e_api_Cell x1)] [.box (List.map AV.p (e_page_builder b0))] = d_page_builder_cell o :=
  (AF_rk (tabOf p) (t_page_builder_cell p) rfl).trans (e_page_builder_cell_top p h)

/-! pagemend/codec.Sum -/

def d_codec_Sum  (r : Int) : Option Res := some (.p (.i .u32 r), [])

def d_codec_Sum_0 (x0 : List UInt8) (x8 : Int) (b0 : Vector Int 16) (o : (Int × Int) ⊕ (Int)) : Option Res := match o with
  | .inl s => rk (tabOf p) f_codec_Sum 0 [.bl 0, .sq (.keep [4] c_codec_Sum_1)] (X (tabOf p) (.lp 1 [0, 3, 4, 8, 9] c_codec_Sum_0) ⟨[(0, .p (.s x0)), (3, .ptr 0 0), (4, .p (.i .u32 s.1)), (8, .p (.i .i64 x8)), (9, .p (.i .i64 s.2))], [.box (List.map AV.p ((e_ar (r_i .u32)) b0))]⟩)
  | .inr o => d_codec_Sum o

def S_codec_Sum_1 (x4 : Int) : Option (Int) :=
  some (notI .u32 x4)

theorem e_codec_Sum_1 {x4 : Int} {B0 : List PV} {o : Int} (h : S_codec_Sum_1 x4 = some o) :
    rk (tabOf p) f_codec_Sum 0 [] (X (tabOf p) c_codec_Sum_1 ⟨[(4, .p (.i .u32 x4))], [.box (List.map AV.p B0)]⟩) = d_codec_Sum o := by
  unfold S_codec_Sum_1 at h
  obtain rfl := sj h
  try simp only [↓Da, Ua, c_codec_Sum_1, z_codec_Sum, ↓reduceIte, Nat.reduceEqDiff, Nat.reduceAdd, Nat.reduceLT, Nat.reduceMul]
  rfl


def S_codec_Sum_0 (x0 : List UInt8) (x8 : Int) (b0 : Vector Int 16) (x4 : Int) (x9 : Int) : Option (((Int × Int) ⊕ (Int))) :=
  if (decide (x9 < x8)) then
    Option.bind (sidS x0 x9) fun c2 =>
    Option.bind (shrS .u32 (xorI .u32 x4 (IntKind.wrap .u32 c2)) 4) fun q4 =>
    Option.bind (inb 16 (andI .u32 (xorI .u32 x4 (IntKind.wrap .u32 c2)) 15)) fun u6 =>
    Option.bind (vget b0 (andI .u32 (xorI .u32 x4 (IntKind.wrap .u32 c2)) 15)) fun y9 =>
    Option.bind (shrS .u32 (xorI .u32 q4 y9) 4) fun q12 =>
    Option.bind (inb 16 (andI .u32 (xorI .u32 q4 y9) 15)) fun u14 =>
    Option.bind (vget b0 (andI .u32 (xorI .u32 q4 y9) 15)) fun y17 =>
    some (.inl ((xorI .u32 q12 y17), (IntKind.wrap .i64 (x9 + 1))))
  else
    Option.map (fun o => .inr o) (S_codec_Sum_1 x4)

theorem e_codec_Sum_0 {x0 : List UInt8} {x8 : Int} {b0 : Vector Int 16} {x4 : Int} {x9 : Int} {o : ((Int × Int) ⊕ (Int))} (h : S_codec_Sum_0 x0 x8 b0 x4 x9 = some o) :
    rk (tabOf p) f_codec_Sum 0 [.lo 1 [0, 3, 4, 8, 9] c_codec_Sum_0, .bl 0, .sq (.keep [4] c_codec_Sum_1)] (X (tabOf p) c_codec_Sum_0 ⟨[(0, .p (.s x0)), (3, .ptr 0 0), (4, .p (.i .u32 x4)), (8, .p (.i .i64 x8)), (9, .p (.i .i64 x9))], [.box (List.map AV.p ((e_ar (r_i .u32)) b0))]⟩) = (d_codec_Sum_0 p x0 x8 b0) o := by
  unfold S_codec_Sum_0 at h
  rcases ite_inv h with ⟨h1, h⟩ | ⟨h1, h⟩
  · obtain ⟨c2, h3, h⟩ := bi h
    obtain ⟨q4, h5, h⟩ := bi h
    obtain ⟨u6, h7, h⟩ := bi h
    have f8 : (0 ≤ ((andI .u32 (xorI .u32 x4 (IntKind.wrap .u32 c2)) 15) : Int) ∧ ((andI .u32 (xorI .u32 x4 (IntKind.wrap .u32 c2)) 15) : Int) < ((16 : Nat) : Int)) = True := eq_true (inb_iff h7)
    obtain ⟨y9, h10, h⟩ := bi h
    have f11 : sub ((e_ar (r_i .u32)) b0) (Int.toNat (andI .u32 (xorI .u32 x4 (IntKind.wrap .u32 c2)) 15) * 1) 1 = some ((r_i .u32) y9) := by
      have e0 := (ar_sub (v := b0) (r_i_len .u32) (vget_iff h10).2)
      exact e0
    try simp only [Nf] at f11
    obtain ⟨q12, h13, h⟩ := bi h
    obtain ⟨u14, h15, h⟩ := bi h
    have f16 : (0 ≤ ((andI .u32 (xorI .u32 q4 y9) 15) : Int) ∧ ((andI .u32 (xorI .u32 q4 y9) 15) : Int) < ((16 : Nat) : Int)) = True := eq_true (inb_iff h15)
    obtain ⟨y17, h18, h⟩ := bi h
    have f19 : sub ((e_ar (r_i .u32)) b0) (Int.toNat (andI .u32 (xorI .u32 q4 y9) 15) * 1) 1 = some ((r_i .u32) y17) := by
      have e0 := (ar_sub (v := b0) (r_i_len .u32) (vget_iff h18).2)
      exact e0
    try simp only [Nf] at f19
    obtain rfl := sj h
    try simp only [↓Da, Ua, c_codec_Sum_0, B_ar_earriu3216, *, ↓reduceIte, Nat.reduceEqDiff, Nat.reduceAdd, Nat.reduceLT, Nat.reduceMul]
    rfl
  · obtain ⟨o', h', rfl⟩ := mi h
    try simp only [↓Da, Ua, c_codec_Sum_0, B_ar_earriu3216, *, ↓reduceIte, Nat.reduceEqDiff, Nat.reduceAdd, Nat.reduceLT, Nat.reduceMul]
    have e0 := e_codec_Sum_1 p (B0 := ((e_ar (r_i .u32)) b0)) h'
    exact e0


def W_codec_Sum_0 (x0 : List UInt8) (x8 : Int) (b0 : Vector Int 16) (s : Int × Int) : Option (Int) :=
  whileO (fun s => S_codec_Sum_0 x0 x8 b0 s.1 s.2) s

theorem e_codec_Sum_0_w {x0 : List UInt8} {x8 : Int} {b0 : Vector Int 16} {s : Int × Int} {o : Int} (h : W_codec_Sum_0 x0 x8 b0 s = some o) :
    rk (tabOf p) f_codec_Sum 0 [.bl 0, .sq (.keep [4] c_codec_Sum_1)] (X (tabOf p) (.lp 1 [0, 3, 4, 8, 9] c_codec_Sum_0) ⟨[(0, .p (.s x0)), (3, .ptr 0 0), (4, .p (.i .u32 s.1)), (8, .p (.i .i64 x8)), (9, .p (.i .i64 s.2))], [.box (List.map AV.p ((e_ar (r_i .u32)) b0))]⟩) = d_codec_Sum o := by
  have h0 : whileO (fun s => S_codec_Sum_0 x0 x8 b0 s.1 s.2) s = some o := h
  exact while_ind (P := fun (s : Int × Int) (o : Int) => rk (tabOf p) f_codec_Sum 0 [.bl 0, .sq (.keep [4] c_codec_Sum_1)] (X (tabOf p) (.lp 1 [0, 3, 4, 8, 9] c_codec_Sum_0) ⟨[(0, .p (.s x0)), (3, .ptr 0 0), (4, .p (.i .u32 s.1)), (8, .p (.i .i64 x8)), (9, .p (.i .i64 s.2))], [.box (List.map AV.p ((e_ar (r_i .u32)) b0))]⟩) = d_codec_Sum o) (fun s r hs => by rw [rk_lp]; exact e_codec_Sum_0 p hs) (fun s s1 r hs ih => by rw [rk_lp]; exact (e_codec_Sum_0 p hs).trans ih) h0

def S_codec_Sum (x0 : List UInt8) : Option (Int) :=
  Option.bind (S_codec_remainders) fun r1 =>
  W_codec_Sum_0 x0 ((List.length x0 : Nat) : Int) r1 (4294967295, 0)

theorem e_codec_Sum_top {x0 : List UInt8} {o : Int} (h : S_codec_Sum x0 = some o) :
    rk (tabOf p) f_codec_Sum 0 [] (X (tabOf p) c_codec_Sum ⟨[(0, .p (.s x0))], []⟩) = d_codec_Sum o := by
  unfold S_codec_Sum at h
  obtain ⟨r1, h2, h⟩ := bi h
  have f3 := q_codec_remainders p h2
  try simp only [Nf] at f3
  try simp only [↓Da, Ua, c_codec_Sum, B_ar_earriu3216, *, ↓reduceIte, Nat.reduceEqDiff, Nat.reduceAdd, Nat.reduceLT, Nat.reduceMul]
  have e0 := e_codec_Sum_0_w p h
  exact e0


theorem e_codec_Sum {x0 : List UInt8} {o : Int} (h : S_codec_Sum x0 = some o) : AF (tabOf p) i_codec_Sum [.p (.s x0)] [] = d_codec_Sum o :=
  (AF_rk (tabOf p) (t_codec_Sum p) rfl).trans (e_codec_Sum_top p h)

theorem q_codec_Sum {x0 : List UInt8} {o : Int} (h : S_codec_Sum x0 = some o) : ∀ ws new st, (callR2 (AF (tabOf p)) i_codec_Sum ([.p (.s x0)], ws) 0 new).run st = some ⟨.p (.i .u32 o), ws⟩ := callR2_plain rfl (e_codec_Sum p h) rfl

/-! pagemend/pagemendref02.cells -/

def d_ref02_cells  (r : Bool) : Option Res := some (.p (.b r), [])

def d_ref02_cells_0 (b0 : T_api_Page) (o : (Int) ⊕ (Bool)) : Option Res := match o with
  | .inl s => rk (tabOf p) f_ref02_cells 0 [.bl 0, .sq (.keep [] c_ref02_cells_1)] (X (tabOf p) (.lp 1 [1, 3] c_ref02_cells_0) ⟨[(1, .ptr 0 0), (3, .p (.i .i64 s))], [.box (List.map AV.p (e_api_Page b0))]⟩)
  | .inr o => d_ref02_cells o

def S_ref02_cells_1  : Option (Bool) :=
  some true

theorem e_ref02_cells_1 {B0 : List PV} {o : Bool} (h : S_ref02_cells_1 = some o) :
    rk (tabOf p) f_ref02_cells 0 [] (X (tabOf p) c_ref02_cells_1 ⟨[], [.box (List.map AV.p B0)]⟩) = d_ref02_cells o := by
  unfold S_ref02_cells_1 at h
  obtain rfl := sj h
  try simp only [↓Da, Ua, c_ref02_cells_1, z_ref02_cells, ↓reduceIte, Nat.reduceEqDiff, Nat.reduceAdd, Nat.reduceLT, Nat.reduceMul]
  rfl


def S_ref02_cells_0 (b0 : T_api_Page) (x3 : Int) : Option (((Int) ⊕ (Bool))) :=
  if (decide (x3 < 16)) then
    Option.bind (inb 16 x3) fun u2 =>
    Option.bind (vget b0.Cells x3) fun y5 =>
    Option.bind (S_ref02_ValidCell y5) fun r8 =>
    if r8 then
      if ((b0.LSN : Int) == 0) then
        if y5.Set then
          some (.inr false)
        else
          some (.inl (IntKind.wrap .i64 (x3 + 1)))
      else
        some (.inl (IntKind.wrap .i64 (x3 + 1)))
    else
      some (.inr false)
  else
    Option.map (fun o => .inr o) (S_ref02_cells_1)

theorem e_ref02_cells_0 {b0 : T_api_Page} {x3 : Int} {o : ((Int) ⊕ (Bool))} (h : S_ref02_cells_0 b0 x3 = some o) :
    rk (tabOf p) f_ref02_cells 0 [.lo 1 [1, 3] c_ref02_cells_0, .bl 0, .sq (.keep [] c_ref02_cells_1)] (X (tabOf p) c_ref02_cells_0 ⟨[(1, .ptr 0 0), (3, .p (.i .i64 x3))], [.box (List.map AV.p (e_api_Page b0))]⟩) = (d_ref02_cells_0 p b0) o := by
  unfold S_ref02_cells_0 at h
  rcases ite_inv h with ⟨h1, h⟩ | ⟨h1, h⟩
  · obtain ⟨u2, h3, h⟩ := bi h
    have f4 : (0 ≤ (x3 : Int) ∧ (x3 : Int) < ((16 : Nat) : Int)) = True := eq_true (inb_iff h3)
    obtain ⟨y5, h6, h⟩ := bi h
    have f7 : sub (e_api_Page b0) (2 + Int.toNat x3 * 2) 2 = some (e_api_Cell y5) := by
      have e0 := (sub_sub (sub_api_Page_Cells b0) (ar_sub (v := b0.Cells) len_api_Cell (vget_iff h6).2))
      exact e0
    try simp only [Nf] at f7
    obtain ⟨r8, h9, h⟩ := bi h
    have f10 := q_ref02_ValidCell p h9
    try simp only [Nf] at f10
    try simp only [↓Da, Ua, c_ref02_cells_0, B_api_Cell, B_ar_eareapiCell16, B_api_Page, *, ↓reduceIte, Nat.reduceEqDiff, Nat.reduceAdd, Nat.reduceLT, Nat.reduceMul]
    rcases ite_inv h with ⟨h11, h⟩ | ⟨h11, h⟩
    · try simp only [↓Da, Ua, c_ref02_cells_0, B_api_Cell, B_ar_eareapiCell16, B_api_Page, *, ↓reduceIte, Nat.reduceEqDiff, Nat.reduceAdd, Nat.reduceLT, Nat.reduceMul]
      rcases ite_inv h with ⟨h12, h⟩ | ⟨h12, h⟩
      · have f13 : sub (e_api_Page b0) (2 + Int.toNat x3 * 2) 1 = some (r_b y5.Set) := by
          have e0 := (sub_sub (sub_sub (sub_api_Page_Cells b0) (ar_sub (v := b0.Cells) len_api_Cell (vget_iff h6).2)) (sub_api_Cell_Set y5))
          exact e0
        try simp only [Nf] at f13
        try simp only [↓Da, Ua, c_ref02_cells_0, B_api_Cell, B_ar_eareapiCell16, B_api_Page, *, ↓reduceIte, Nat.reduceEqDiff, Nat.reduceAdd, Nat.reduceLT, Nat.reduceMul]
        rcases ite_inv h with ⟨h14, h⟩ | ⟨h14, h⟩
        · obtain rfl := sj h
          try simp only [↓Da, Ua, c_ref02_cells_0, B_api_Cell, B_ar_eareapiCell16, B_api_Page, z_ref02_cells, *, ↓reduceIte, Nat.reduceEqDiff, Nat.reduceAdd, Nat.reduceLT, Nat.reduceMul]
          rfl
        · obtain rfl := sj h
          try simp only [↓Da, Ua, c_ref02_cells_0, B_api_Cell, B_ar_eareapiCell16, B_api_Page, *, ↓reduceIte, Nat.reduceEqDiff, Nat.reduceAdd, Nat.reduceLT, Nat.reduceMul]
          rfl
      · obtain rfl := sj h
        try simp only [↓Da, Ua, c_ref02_cells_0, B_api_Cell, B_ar_eareapiCell16, B_api_Page, *, ↓reduceIte, Nat.reduceEqDiff, Nat.reduceAdd, Nat.reduceLT, Nat.reduceMul]
        rfl
    · obtain rfl := sj h
      try simp only [↓Da, Ua, c_ref02_cells_0, B_api_Cell, B_ar_eareapiCell16, B_api_Page, z_ref02_cells, *, ↓reduceIte, Nat.reduceEqDiff, Nat.reduceAdd, Nat.reduceLT, Nat.reduceMul]
      rfl
  · obtain ⟨o', h', rfl⟩ := mi h
    try simp only [↓Da, Ua, c_ref02_cells_0, B_api_Cell, B_ar_eareapiCell16, B_api_Page, *, ↓reduceIte, Nat.reduceEqDiff, Nat.reduceAdd, Nat.reduceLT, Nat.reduceMul]
    have e0 := e_ref02_cells_1 p (B0 := (e_api_Page b0)) h'
    exact e0


def W_ref02_cells_0 (b0 : T_api_Page) (s : Int) : Option (Bool) :=
  whileO (fun s => S_ref02_cells_0 b0 s) s

theorem e_ref02_cells_0_w {b0 : T_api_Page} {s : Int} {o : Bool} (h : W_ref02_cells_0 b0 s = some o) :
    rk (tabOf p) f_ref02_cells 0 [.bl 0, .sq (.keep [] c_ref02_cells_1)] (X (tabOf p) (.lp 1 [1, 3] c_ref02_cells_0) ⟨[(1, .ptr 0 0), (3, .p (.i .i64 s))], [.box (List.map AV.p (e_api_Page b0))]⟩) = d_ref02_cells o := by
  have h0 : whileO (fun s => S_ref02_cells_0 b0 s) s = some o := h
  exact while_ind (P := fun (s : Int) (o : Bool) => rk (tabOf p) f_ref02_cells 0 [.bl 0, .sq (.keep [] c_ref02_cells_1)] (X (tabOf p) (.lp 1 [1, 3] c_ref02_cells_0) ⟨[(1, .ptr 0 0), (3, .p (.i .i64 s))], [.box (List.map AV.p (e_api_Page b0))]⟩) = d_ref02_cells o) (fun s r hs => by rw [rk_lp]; exact e_ref02_cells_0 p hs) (fun s s1 r hs ih => by rw [rk_lp]; exact (e_ref02_cells_0 p hs).trans ih) h0

def S_ref02_cells (x0 : T_api_Page) : Option (Bool) :=
  W_ref02_cells_0 x0 0

theorem e_ref02_cells_top {x0 : T_api_Page} {o : Bool} (h : S_ref02_cells x0 = some o) :
    rk (tabOf p) f_ref02_cells 0 [] (X (tabOf p) c_ref02_cells ⟨[(0, .data (e_api_Page x0))], []⟩) = d_ref02_cells o := by
  unfold S_ref02_cells at h
  try simp only [↓Da, Ua, c_ref02_cells, B_api_Cell, B_ar_eareapiCell16, B_api_Page, ↓reduceIte, Nat.reduceEqDiff, Nat.reduceAdd, Nat.reduceLT, Nat.reduceMul]
  have e0 := e_ref02_cells_0_w p h
  exact e0


theorem e_ref02_cells {x0 : T_api_Page} {o : Bool} (h : S_ref02_cells x0 = some o) : AF (tabOf p) i_ref02_cells [.data (e_api_Page x0)] [] = d_ref02_cells o :=
  (AF_rk (tabOf p) (t_ref02_cells p) rfl).trans (e_ref02_cells_top p h)

theorem q_ref02_cells {x0 : T_api_Page} {o : Bool} (h : S_ref02_cells x0 = some o) : ∀ ws new st, (callR2 (AF (tabOf p)) i_ref02_cells ([.data (e_api_Page x0)], ws) 0 new).run st = some ⟨.p (.b o), ws⟩ := callR2_plain rfl (e_ref02_cells p h) rfl

/-! pagemend/pagemendref02.Check -/

def d_ref02_Check  (r : Int) : Option Res := some (.p (.i .i64 r), [])

def S_ref02_Check (x0 : T_api_Page) : Option (Int) :=
  Option.bind (S_ref02_numbers x0) fun r1 =>
  if r1 then
    Option.bind (S_ref02_cells x0) fun r5 =>
    if r5 then
      some 0
    else
      some 22
  else
    some 1

theorem e_ref02_Check_top {x0 : T_api_Page} {o : Int} (h : S_ref02_Check x0 = some o) :
    rk (tabOf p) f_ref02_Check 0 [] (X (tabOf p) c_ref02_Check ⟨[(0, .data (e_api_Page x0))], []⟩) = d_ref02_Check o := by
  unfold S_ref02_Check at h
  obtain ⟨r1, h2, h⟩ := bi h
  have f3 := q_ref02_numbers p h2
  try simp only [Nf] at f3
  try simp only [↓Da, Ua, c_ref02_Check, B_api_Cell, B_ar_eareapiCell16, B_api_Page, *, ↓reduceIte, Nat.reduceEqDiff, Nat.reduceAdd, Nat.reduceLT, Nat.reduceMul]
  rcases ite_inv h with ⟨h4, h⟩ | ⟨h4, h⟩
  · obtain ⟨r5, h6, h⟩ := bi h
    have f7 := q_ref02_cells p h6
    try simp only [Nf] at f7
    try simp only [↓Da, Ua, c_ref02_Check, B_api_Cell, B_ar_eareapiCell16, B_api_Page, *, ↓reduceIte, Nat.reduceEqDiff, Nat.reduceAdd, Nat.reduceLT, Nat.reduceMul]
    rcases ite_inv h with ⟨h8, h⟩ | ⟨h8, h⟩
    · obtain rfl := sj h
      try simp only [↓Da, Ua, c_ref02_Check, B_api_Cell, B_ar_eareapiCell16, B_api_Page, z_ref02_Check, *, ↓reduceIte, Nat.reduceEqDiff, Nat.reduceAdd, Nat.reduceLT, Nat.reduceMul]
      rfl
    · obtain rfl := sj h
      try simp only [↓Da, Ua, c_ref02_Check, B_api_Cell, B_ar_eareapiCell16, B_api_Page, z_ref02_Check, *, ↓reduceIte, Nat.reduceEqDiff, Nat.reduceAdd, Nat.reduceLT, Nat.reduceMul]
      rfl
  · obtain rfl := sj h
    try simp only [↓Da, Ua, c_ref02_Check, B_api_Cell, B_ar_eareapiCell16, B_api_Page, z_ref02_Check, *, ↓reduceIte, Nat.reduceEqDiff, Nat.reduceAdd, Nat.reduceLT, Nat.reduceMul]
    rfl


theorem e_ref02_Check {x0 : T_api_Page} {o : Int} (h : S_ref02_Check x0 = some o) : AF (tabOf p) i_ref02_Check [.data (e_api_Page x0)] [] = d_ref02_Check o :=
  (AF_rk (tabOf p) (t_ref02_Check p) rfl).trans (e_ref02_Check_top p h)

theorem q_ref02_Check {x0 : T_api_Page} {o : Int} (h : S_ref02_Check x0 = some o) : ∀ ws new st, (callR2 (AF (tabOf p)) i_ref02_Check ([.data (e_api_Page x0)], ws) 0 new).run st = some ⟨.p (.i .i64 o), ws⟩ := callR2_plain rfl (e_ref02_Check p h) rfl

/-! pagemend/page.Encode -/

def d_page_Encode  (r : (List UInt8) × Int) : Option Res := some (.tup [.p (.s r.1), .p (.i .i64 r.2)], [])

def d_page_Encode_0 (x28 : Vector T_api_Cell 16) (b0 : T_api_Page) (o : (Int × T_page_builder) ⊕ ((List UInt8) × Int)) : Option Res := match o with
  | .inl s => rk (tabOf p) f_page_Encode 0 [.bl 1, .td 2 [1, 2, 3, 4], .sq (.keep [1, 4] c_page_Encode_1)] (X (tabOf p) (.lp 2 [1, 4, 5, 28, 29] c_page_Encode_0) ⟨[(1, .ptr 0 0), (4, .ptr 1 0), (5, .fn i_page_builder_cell [.ptr 1 0] []), (28, .data ((e_ar e_api_Cell) x28)), (29, .p (.i .i64 s.1))], [.box (List.map AV.p (e_api_Page b0)), .box (List.map AV.p (e_page_builder s.2))]⟩)
  | .inr o => d_page_Encode o

def S_page_Encode_1 (b0 : T_api_Page) (b1 : T_page_builder) : Option ((List UInt8) × Int) :=
  Option.bind (S_strings_Repeat ([0]) (IntKind.wrap .i64 (244 - ((List.length b1.s_ : Nat) : Int)))) fun r1 =>
  Option.bind (catS b1.s_ r1) fun s5 =>
  Option.bind (S_codec_Sum s5) fun r7 =>
  Option.bind (S_codec_Put s5 (IntKind.wrap .i64 r7) 4) fun r11 =>
  Option.bind (S_codec_Put r11 b0.LSN 8) fun r15 =>
  some (r15, 0)

theorem e_page_Encode_1 {b0 : T_api_Page} {b1 : T_page_builder} {o : (List UInt8) × Int} (h : S_page_Encode_1 b0 b1 = some o) :
    rk (tabOf p) f_page_Encode 0 [] (X (tabOf p) c_page_Encode_1 ⟨[(1, .ptr 0 0), (4, .ptr 1 0)], [.box (List.map AV.p (e_api_Page b0)), .box (List.map AV.p (e_page_builder b1))]⟩) = d_page_Encode o := by
  unfold S_page_Encode_1 at h
  obtain ⟨r1, h2, h⟩ := bi h
  have f3 := q_strings_Repeat p h2
  try simp only [Nf, U_page_builder] at f3
  have f4 : ∀ ws k new s, blksOf ((callR2 (AF (tabOf p)) i_strings_Repeat ([.p (.s [0]), .p (.i .i64 (IntKind.wrap .i64 (244 - ((List.length b1.s_ : Nat) : Int))))], ws) k new).reads s) = [] := callR2_reads_plain rfl
  try simp only [Nf, U_page_builder] at f4
  obtain ⟨s5, h6, h⟩ := bi h
  obtain ⟨r7, h8, h⟩ := bi h
  have f9 := q_codec_Sum p h8
  try simp only [Nf, U_page_builder] at f9
  have f10 : ∀ ws k new s, blksOf ((callR2 (AF (tabOf p)) i_codec_Sum ([.p (.s s5)], ws) k new).reads s) = [] := callR2_reads_plain rfl
  try simp only [Nf, U_page_builder] at f10
  obtain ⟨r11, h12, h⟩ := bi h
  have f13 := q_codec_Put p h12
  try simp only [Nf, U_page_builder] at f13
  have f14 : ∀ ws k new s, blksOf ((callR2 (AF (tabOf p)) i_codec_Put ([.p (.s s5), .p (.i .i64 (IntKind.wrap .i64 r7)), .p (.i .i64 4)], ws) k new).reads s) = [] := callR2_reads_plain rfl
  try simp only [Nf, U_page_builder] at f14
  obtain ⟨r15, h16, h⟩ := bi h
  have f17 := q_codec_Put p h16
  try simp only [Nf, U_page_builder] at f17
  have f18 : ∀ ws k new s, blksOf ((callR2 (AF (tabOf p)) i_codec_Put ([.p (.s r11), .p (.i .i64 b0.LSN), .p (.i .i64 8)], ws) k new).reads s) = [] := callR2_reads_plain rfl
  try simp only [Nf, U_page_builder] at f18
  obtain rfl := sj h
  try simp only [↓Da, Ua, Ra, c_page_Encode_1, B_api_Cell, B_ar_eareapiCell16, B_api_Page, U_page_builder, z_page_Encode, *, ↓reduceIte, Nat.reduceEqDiff, Nat.reduceAdd, Nat.reduceLT, Nat.reduceMul, Nat.reduceBEq]
  rfl


def S_page_Encode_0 (x28 : Vector T_api_Cell 16) (b0 : T_api_Page) (x29 : Int) (b1 : T_page_builder) : Option (((Int × T_page_builder) ⊕ ((List UInt8) × Int))) :=
  if (decide (x29 < 16)) then
    Option.bind (vget x28 x29) fun y2 =>
    Option.bind (S_page_builder_cell b1 y2) fun r6 =>
    some (.inl ((IntKind.wrap .i64 (x29 + 1)), r6))
  else
    Option.map (fun o => .inr o) (S_page_Encode_1 b0 b1)

theorem e_page_Encode_0 {x28 : Vector T_api_Cell 16} {b0 : T_api_Page} {x29 : Int} {b1 : T_page_builder} {o : ((Int × T_page_builder) ⊕ ((List UInt8) × Int))} (h : S_page_Encode_0 x28 b0 x29 b1 = some o) :
    rk (tabOf p) f_page_Encode 0 [.lo 2 [1, 4, 5, 28, 29] c_page_Encode_0, .bl 1, .td 2 [1, 2, 3, 4], .sq (.keep [1, 4] c_page_Encode_1)] (X (tabOf p) c_page_Encode_0 ⟨[(1, .ptr 0 0), (4, .ptr 1 0), (5, .fn i_page_builder_cell [.ptr 1 0] []), (28, .data ((e_ar e_api_Cell) x28)), (29, .p (.i .i64 x29))], [.box (List.map AV.p (e_api_Page b0)), .box (List.map AV.p (e_page_builder b1))]⟩) = (d_page_Encode_0 p x28 b0) o := by
  unfold S_page_Encode_0 at h
  rcases ite_inv h with ⟨h1, h⟩ | ⟨h1, h⟩
  · obtain ⟨y2, h3, h⟩ := bi h
    have f4 : (0 ≤ (x29 : Int) ∧ (x29 : Int) < ((16 : Nat) : Int)) = True := eq_true (vget_iff h3).1
    have f5 : sub (e_ar e_api_Cell x28) (Int.toNat x29 * 2) 2 = some (e_api_Cell y2) := ar_sub len_api_Cell (vget_iff h3).2
    try simp only [Nf, U_page_builder] at f5
    obtain ⟨r6, h7, h⟩ := bi h
    have f8 : ∀ ws new s, boxesAt ws s [1] [List.map AV.p (e_page_builder b1)] → (callR2 (AF (tabOf p)) i_page_builder_cell ([.ptr 1 0, .data (e_api_Cell y2)], ws) 0 new).run s = some ⟨.tup [], ws ++ [(1, .box (List.map AV.p (e_page_builder r6)))]⟩ := callR2_ptrs (args' := [.ptr 0 0, .data (e_api_Cell y2)]) (bs := [1]) (css := [List.map AV.p (e_page_builder b1)]) (css' := [List.map AV.p (e_page_builder r6)]) rfl rfl rfl (by simp [allPlain, all_plain_mapp]) (e_page_builder_cell p h7) rfl rfl (by simp [allPlain, all_plain_mapp])
    try simp only [Nf, U_page_builder] at f8
    obtain rfl := sj h
    try simp only [↓Da, Ua, c_page_Encode_0, B_api_Cell, U_page_builder, *, ↓reduceIte, Nat.reduceEqDiff, Nat.reduceAdd, Nat.reduceLT, Nat.reduceMul]
    rfl
  · obtain ⟨o', h', rfl⟩ := mi h
    try simp only [↓Da, Ua, c_page_Encode_0, B_api_Cell, U_page_builder, *, ↓reduceIte, Nat.reduceEqDiff, Nat.reduceAdd, Nat.reduceLT, Nat.reduceMul]
    have e0 := e_page_Encode_1 p h'
    exact e0


def W_page_Encode_0 (x28 : Vector T_api_Cell 16) (b0 : T_api_Page) (s : Int × T_page_builder) : Option ((List UInt8) × Int) :=
  whileO (fun s => S_page_Encode_0 x28 b0 s.1 s.2) s

theorem e_page_Encode_0_w {x28 : Vector T_api_Cell 16} {b0 : T_api_Page} {s : Int × T_page_builder} {o : (List UInt8) × Int} (h : W_page_Encode_0 x28 b0 s = some o) :
    rk (tabOf p) f_page_Encode 0 [.bl 1, .td 2 [1, 2, 3, 4], .sq (.keep [1, 4] c_page_Encode_1)] (X (tabOf p) (.lp 2 [1, 4, 5, 28, 29] c_page_Encode_0) ⟨[(1, .ptr 0 0), (4, .ptr 1 0), (5, .fn i_page_builder_cell [.ptr 1 0] []), (28, .data ((e_ar e_api_Cell) x28)), (29, .p (.i .i64 s.1))], [.box (List.map AV.p (e_api_Page b0)), .box (List.map AV.p (e_page_builder s.2))]⟩) = d_page_Encode o := by
  have h0 : whileO (fun s => S_page_Encode_0 x28 b0 s.1 s.2) s = some o := h
  exact while_ind (P := fun (s : Int × T_page_builder) (o : (List UInt8) × Int) => rk (tabOf p) f_page_Encode 0 [.bl 1, .td 2 [1, 2, 3, 4], .sq (.keep [1, 4] c_page_Encode_1)] (X (tabOf p) (.lp 2 [1, 4, 5, 28, 29] c_page_Encode_0) ⟨[(1, .ptr 0 0), (4, .ptr 1 0), (5, .fn i_page_builder_cell [.ptr 1 0] []), (28, .data ((e_ar e_api_Cell) x28)), (29, .p (.i .i64 s.1))], [.box (List.map AV.p (e_api_Page b0)), .box (List.map AV.p (e_page_builder s.2))]⟩) = d_page_Encode o) (fun s r hs => by rw [rk_lp]; exact e_page_Encode_0 p hs) (fun s s1 r hs ih => by rw [rk_lp]; exact (e_page_Encode_0 p hs).trans ih) h0

def S_page_Encode (x0 : T_api_Page) : Option ((List UInt8) × Int) :=
  Option.bind (S_page_placed x0) fun r1 =>
  if r1 then
    Option.bind (S_page_cells x0) fun r5 =>
    if r5 then
      Option.bind (S_codec_Put ([]) x0.LSN 8) fun r9 =>
      Option.bind (S_codec_Put r9 x0.ID 4) fun r13 =>
      W_page_Encode_0 x0.Cells x0 (0, (⟨r13⟩ : T_page_builder))
    else
      some (([] : List UInt8), 22)
  else
    some (([] : List UInt8), 1)

theorem e_page_Encode_top {x0 : T_api_Page} {o : (List UInt8) × Int} (h : S_page_Encode x0 = some o) :
    rk (tabOf p) f_page_Encode 0 [] (X (tabOf p) c_page_Encode ⟨[(0, .data (e_api_Page x0))], []⟩) = d_page_Encode o := by
  unfold S_page_Encode at h
  obtain ⟨r1, h2, h⟩ := bi h
  have f3 := q_page_placed p h2
  try simp only [Nf, U_page_builder] at f3
  try simp only [↓Da, Ua, Ra, c_page_Encode, B_api_Cell, B_ar_eareapiCell16, B_api_Page, U_page_builder, *, ↓reduceIte, Nat.reduceEqDiff, Nat.reduceAdd, Nat.reduceLT, Nat.reduceMul, Nat.reduceBEq]
  rcases ite_inv h with ⟨h4, h⟩ | ⟨h4, h⟩
  · obtain ⟨r5, h6, h⟩ := bi h
    have f7 := q_page_cells p h6
    try simp only [Nf, U_page_builder] at f7
    try simp only [↓Da, Ua, Ra, c_page_Encode, B_api_Cell, B_ar_eareapiCell16, B_api_Page, U_page_builder, *, ↓reduceIte, Nat.reduceEqDiff, Nat.reduceAdd, Nat.reduceLT, Nat.reduceMul, Nat.reduceBEq]
    rcases ite_inv h with ⟨h8, h⟩ | ⟨h8, h⟩
    · obtain ⟨r9, h10, h⟩ := bi h
      have f11 := q_codec_Put p h10
      try simp only [Nf, U_page_builder] at f11
      have f12 : ∀ ws k new s, blksOf ((callR2 (AF (tabOf p)) i_codec_Put ([.p (.s []), .p (.i .i64 x0.LSN), .p (.i .i64 8)], ws) k new).reads s) = [] := callR2_reads_plain rfl
      try simp only [Nf, U_page_builder] at f12
      obtain ⟨r13, h14, h⟩ := bi h
      have f15 := q_codec_Put p h14
      try simp only [Nf, U_page_builder] at f15
      have f16 : ∀ ws k new s, blksOf ((callR2 (AF (tabOf p)) i_codec_Put ([.p (.s r9), .p (.i .i64 x0.ID), .p (.i .i64 4)], ws) k new).reads s) = [] := callR2_reads_plain rfl
      try simp only [Nf, U_page_builder] at f16
      try simp only [↓Da, Ua, Ra, c_page_Encode, B_api_Cell, B_ar_eareapiCell16, B_api_Page, U_page_builder, *, ↓reduceIte, Nat.reduceEqDiff, Nat.reduceAdd, Nat.reduceLT, Nat.reduceMul, Nat.reduceBEq]
      have e0 := e_page_Encode_0_w p h
      exact e0
    · obtain rfl := sj h
      try simp only [↓Da, Ua, Ra, c_page_Encode, B_api_Cell, B_ar_eareapiCell16, B_api_Page, U_page_builder, z_page_Encode, *, ↓reduceIte, Nat.reduceEqDiff, Nat.reduceAdd, Nat.reduceLT, Nat.reduceMul, Nat.reduceBEq]
      rfl
  · obtain rfl := sj h
    try simp only [↓Da, Ua, Ra, c_page_Encode, B_api_Cell, B_ar_eareapiCell16, B_api_Page, U_page_builder, z_page_Encode, *, ↓reduceIte, Nat.reduceEqDiff, Nat.reduceAdd, Nat.reduceLT, Nat.reduceMul, Nat.reduceBEq]
    rfl


theorem e_page_Encode {x0 : T_api_Page} {o : (List UInt8) × Int} (h : S_page_Encode x0 = some o) : AF (tabOf p) i_page_Encode [.data (e_api_Page x0)] [] = d_page_Encode o :=
  (AF_rk (tabOf p) (t_page_Encode p) rfl).trans (e_page_Encode_top p h)

theorem q_page_Encode {x0 : T_api_Page} {o : (List UInt8) × Int} (h : S_page_Encode x0 = some o) : ∀ ws new st, (callR2 (AF (tabOf p)) i_page_Encode ([.data (e_api_Page x0)], ws) 0 new).run st = some ⟨.tup [.p (.s o.1), .p (.i .i64 o.2)], ws⟩ := callR2_plain rfl (e_page_Encode p h) rfl

/-! pagemend/pagemendref02.Valid -/

def d_ref02_Valid  (r : Bool) : Option Res := some (.p (.b r), [])

def S_ref02_Valid (x0 : T_api_Page) : Option (Bool) :=
  Option.bind (S_ref02_numbers x0) fun r1 =>
  if r1 then
    Option.bind (S_ref02_cells x0) fun r5 =>
    some r5
  else
    some false

theorem e_ref02_Valid_top {x0 : T_api_Page} {o : Bool} (h : S_ref02_Valid x0 = some o) :
    rk (tabOf p) f_ref02_Valid 0 [] (X (tabOf p) c_ref02_Valid ⟨[(0, .data (e_api_Page x0))], []⟩) = d_ref02_Valid o := by
  unfold S_ref02_Valid at h
  obtain ⟨r1, h2, h⟩ := bi h
  have f3 := q_ref02_numbers p h2
  try simp only [Nf] at f3
  try simp only [↓Da, Ua, c_ref02_Valid, B_api_Cell, B_ar_eareapiCell16, B_api_Page, *, ↓reduceIte, Nat.reduceEqDiff, Nat.reduceAdd, Nat.reduceLT, Nat.reduceMul]
  rcases ite_inv h with ⟨h4, h⟩ | ⟨h4, h⟩
  · obtain ⟨r5, h6, h⟩ := bi h
    have f7 := q_ref02_cells p h6
    try simp only [Nf] at f7
    obtain rfl := sj h
    try simp only [↓Da, Ua, c_ref02_Valid, B_api_Cell, B_ar_eareapiCell16, B_api_Page, z_ref02_Valid, *, ↓reduceIte, Nat.reduceEqDiff, Nat.reduceAdd, Nat.reduceLT, Nat.reduceMul]
    rfl
  · obtain rfl := sj h
    try simp only [↓Da, Ua, c_ref02_Valid, B_api_Cell, B_ar_eareapiCell16, B_api_Page, z_ref02_Valid, *, ↓reduceIte, Nat.reduceEqDiff, Nat.reduceAdd, Nat.reduceLT, Nat.reduceMul]
    rfl


theorem e_ref02_Valid {x0 : T_api_Page} {o : Bool} (h : S_ref02_Valid x0 = some o) : AF (tabOf p) i_ref02_Valid [.data (e_api_Page x0)] [] = d_ref02_Valid o :=
  (AF_rk (tabOf p) (t_ref02_Valid p) rfl).trans (e_ref02_Valid_top p h)

theorem q_ref02_Valid {x0 : T_api_Page} {o : Bool} (h : S_ref02_Valid x0 = some o) : ∀ ws new st, (callR2 (AF (tabOf p)) i_ref02_Valid ([.data (e_api_Page x0)], ws) 0 new).run st = some ⟨.p (.b o), ws⟩ := callR2_plain rfl (e_ref02_Valid p h) rfl

/-! pagemend/pagemendref02.Encode -/

def d_ref02_Encode  (r : (List UInt8) × Int) : Option Res := some (.tup [.p (.s r.1), .p (.i .i64 r.2)], [])

def d_ref02_Encode_2 (b0 : T_api_Page) (o : ((List UInt8) × Int) ⊕ ((List UInt8) × Int)) : Option Res := match o with
  | .inl s => rk (tabOf p) f_ref02_Encode 0 [.bl 0, .sq (.keep [1, 5] c_ref02_Encode_3)] (X (tabOf p) (.lp 1 [1, 5, 6] c_ref02_Encode_2) ⟨[(1, .ptr 0 0), (5, .p (.s s.1)), (6, .p (.i .i64 s.2))], [.box (List.map AV.p (e_api_Page b0))]⟩)
  | .inr o => d_ref02_Encode o

def S_ref02_Encode_1 (x5 : List UInt8) (x6 : Int) (b0 : T_api_Page) : Option ((((List UInt8) × Int) ⊕ ((List UInt8) × Int))) :=
  some (.inl (x5, (IntKind.wrap .i64 (x6 + 1))))

theorem e_ref02_Encode_1 {x5 : List UInt8} {x6 : Int} {b0 : T_api_Page} {o : (((List UInt8) × Int) ⊕ ((List UInt8) × Int))} (h : S_ref02_Encode_1 x5 x6 b0 = some o) :
    rk (tabOf p) f_ref02_Encode 0 [.lo 1 [1, 5, 6] c_ref02_Encode_2, .bl 0, .sq (.keep [1, 5] c_ref02_Encode_3)] (X (tabOf p) c_ref02_Encode_1 ⟨[(1, .ptr 0 0), (5, .p (.s x5)), (6, .p (.i .i64 x6))], [.box (List.map AV.p (e_api_Page b0))]⟩) = (d_ref02_Encode_2 p b0) o := by
  unfold S_ref02_Encode_1 at h
  obtain rfl := sj h
  try simp only [↓Da, Ua, c_ref02_Encode_1, ↓reduceIte, Nat.reduceEqDiff, Nat.reduceAdd, Nat.reduceLT, Nat.reduceMul]
  rfl


def S_ref02_Encode_0 (x5 : List UInt8) (x6 : Int) (x7 : Int) (b0 : T_api_Page) : Option ((((List UInt8) × Int) ⊕ ((List UInt8) × Int))) :=
  Option.bind (S_ref01_Put x5 x7 1) fun r1 =>
  Option.bind (inb 16 x6) fun u4 =>
  Option.bind (vget b0.Cells x6) fun y7 =>
  Option.bind (S_ref02_zeros (IntKind.wrap .i64 (12 - ((List.length y7.Data : Nat) : Int)))) fun r11 =>
  Option.bind (catS y7.Data r11) fun s15 =>
  Option.bind (catS r1 s15) fun s17 =>
  S_ref02_Encode_1 s17 x6 b0

theorem e_ref02_Encode_0 {x5 : List UInt8} {x6 : Int} {x7 : Int} {b0 : T_api_Page} {o : (((List UInt8) × Int) ⊕ ((List UInt8) × Int))} (h : S_ref02_Encode_0 x5 x6 x7 b0 = some o) :
    rk (tabOf p) f_ref02_Encode 0 [.bl 1, .sq (.keep [1, 5, 6] c_ref02_Encode_1), .lo 1 [1, 5, 6] c_ref02_Encode_2, .bl 0, .sq (.keep [1, 5] c_ref02_Encode_3)] (X (tabOf p) c_ref02_Encode_0 ⟨[(1, .ptr 0 0), (5, .p (.s x5)), (6, .p (.i .i64 x6)), (7, .p (.i .i64 x7))], [.box (List.map AV.p (e_api_Page b0))]⟩) = (d_ref02_Encode_2 p b0) o := by
  unfold S_ref02_Encode_0 at h
  obtain ⟨r1, h2, h⟩ := bi h
  have f3 := q_ref01_Put p h2
  try simp only [Nf] at f3
  obtain ⟨u4, h5, h⟩ := bi h
  have f6 : (0 ≤ (x6 : Int) ∧ (x6 : Int) < ((16 : Nat) : Int)) = True := eq_true (inb_iff h5)
  obtain ⟨y7, h8, h⟩ := bi h
  have f9 : sub (e_api_Page b0) ((2 + Int.toNat x6 * 2) + 1) 1 = some (r_s y7.Data) := by
    have e0 := (sub_sub (sub_sub (sub_api_Page_Cells b0) (ar_sub (v := b0.Cells) len_api_Cell (vget_iff h8).2)) (sub_api_Cell_Data y7))
    exact e0
  try simp only [Nf] at f9
  have f10 : sub (e_api_Page b0) ((2 + Int.toNat x6 * 2) + 1) 1 = some (r_s y7.Data) := by
    have e0 := (sub_sub (sub_sub (sub_api_Page_Cells b0) (ar_sub (v := b0.Cells) len_api_Cell (vget_iff h8).2)) (sub_api_Cell_Data y7))
    exact e0
  try simp only [Nf] at f10
  obtain ⟨r11, h12, h⟩ := bi h
  have f13 := q_ref02_zeros p h12
  try simp only [Nf] at f13
  have f14 : ∀ ws k new s, blksOf ((callR2 (AF (tabOf p)) i_ref02_zeros ([.p (.i .i64 (IntKind.wrap .i64 (12 - ((List.length y7.Data : Nat) : Int))))], ws) k new).reads s) = [] := callR2_reads_plain rfl
  try simp only [Nf] at f14
  obtain ⟨s15, h16, h⟩ := bi h
  obtain ⟨s17, h18, h⟩ := bi h
  try simp only [↓Da, Ua, Ra, c_ref02_Encode_0, B_api_Cell, B_ar_eareapiCell16, B_api_Page, *, ↓reduceIte, Nat.reduceEqDiff, Nat.reduceAdd, Nat.reduceLT, Nat.reduceMul, Nat.reduceBEq]
  have e0 := e_ref02_Encode_1 p h
  exact e0


def S_ref02_Encode_3 (x5 : List UInt8) (b0 : T_api_Page) : Option ((List UInt8) × Int) :=
  Option.bind (S_ref02_zeros (IntKind.wrap .i64 (244 - ((List.length x5 : Nat) : Int)))) fun r1 =>
  Option.bind (catS x5 r1) fun s4 =>
  Option.bind (S_ref01_Sum s4) fun r6 =>
  Option.bind (S_ref01_Put s4 (IntKind.wrap .i64 r6) 4) fun r9 =>
  Option.bind (S_ref01_Put r9 b0.LSN 8) fun r12 =>
  some (r12, 0)

theorem e_ref02_Encode_3 {x5 : List UInt8} {b0 : T_api_Page} {o : (List UInt8) × Int} (h : S_ref02_Encode_3 x5 b0 = some o) :
    rk (tabOf p) f_ref02_Encode 0 [] (X (tabOf p) c_ref02_Encode_3 ⟨[(1, .ptr 0 0), (5, .p (.s x5))], [.box (List.map AV.p (e_api_Page b0))]⟩) = d_ref02_Encode o := by
  unfold S_ref02_Encode_3 at h
  obtain ⟨r1, h2, h⟩ := bi h
  have f3 := q_ref02_zeros p h2
  try simp only [Nf] at f3
  obtain ⟨s4, h5, h⟩ := bi h
  obtain ⟨r6, h7, h⟩ := bi h
  have f8 := q_ref01_Sum p h7
  try simp only [Nf] at f8
  obtain ⟨r9, h10, h⟩ := bi h
  have f11 := q_ref01_Put p h10
  try simp only [Nf] at f11
  obtain ⟨r12, h13, h⟩ := bi h
  have f14 := q_ref01_Put p h13
  try simp only [Nf] at f14
  obtain rfl := sj h
  try simp only [↓Da, Ua, c_ref02_Encode_3, B_api_Cell, B_ar_eareapiCell16, B_api_Page, z_ref02_Encode, *, ↓reduceIte, Nat.reduceEqDiff, Nat.reduceAdd, Nat.reduceLT, Nat.reduceMul]
  rfl


def S_ref02_Encode_2 (b0 : T_api_Page) (x5 : List UInt8) (x6 : Int) : Option ((((List UInt8) × Int) ⊕ ((List UInt8) × Int))) :=
  if (decide (x6 < 16)) then
    Option.bind (inb 16 x6) fun u2 =>
    Option.bind (vget b0.Cells x6) fun y5 =>
    if y5.Set then
      S_ref02_Encode_0 x5 x6 ((List.length y5.Data : Nat) : Int) b0
    else
      S_ref02_Encode_0 x5 x6 255 b0
  else
    Option.map (fun o => .inr o) (S_ref02_Encode_3 x5 b0)

theorem e_ref02_Encode_2 {b0 : T_api_Page} {x5 : List UInt8} {x6 : Int} {o : (((List UInt8) × Int) ⊕ ((List UInt8) × Int))} (h : S_ref02_Encode_2 b0 x5 x6 = some o) :
    rk (tabOf p) f_ref02_Encode 0 [.lo 1 [1, 5, 6] c_ref02_Encode_2, .bl 0, .sq (.keep [1, 5] c_ref02_Encode_3)] (X (tabOf p) c_ref02_Encode_2 ⟨[(1, .ptr 0 0), (5, .p (.s x5)), (6, .p (.i .i64 x6))], [.box (List.map AV.p (e_api_Page b0))]⟩) = (d_ref02_Encode_2 p b0) o := by
  unfold S_ref02_Encode_2 at h
  rcases ite_inv h with ⟨h1, h⟩ | ⟨h1, h⟩
  · obtain ⟨u2, h3, h⟩ := bi h
    have f4 : (0 ≤ (x6 : Int) ∧ (x6 : Int) < ((16 : Nat) : Int)) = True := eq_true (inb_iff h3)
    obtain ⟨y5, h6, h⟩ := bi h
    have f7 : sub (e_api_Page b0) (2 + Int.toNat x6 * 2) 1 = some (r_b y5.Set) := by
      have e0 := (sub_sub (sub_sub (sub_api_Page_Cells b0) (ar_sub (v := b0.Cells) len_api_Cell (vget_iff h6).2)) (sub_api_Cell_Set y5))
      exact e0
    try simp only [Nf] at f7
    try simp only [↓Da, Ua, c_ref02_Encode_2, B_api_Cell, B_ar_eareapiCell16, B_api_Page, *, ↓reduceIte, Nat.reduceEqDiff, Nat.reduceAdd, Nat.reduceLT, Nat.reduceMul]
    rcases ite_inv h with ⟨h8, h⟩ | ⟨h8, h⟩
    · have f9 : sub (e_api_Page b0) ((2 + Int.toNat x6 * 2) + 1) 1 = some (r_s y5.Data) := by
        have e0 := (sub_sub (sub_sub (sub_api_Page_Cells b0) (ar_sub (v := b0.Cells) len_api_Cell (vget_iff h6).2)) (sub_api_Cell_Data y5))
        exact e0
      try simp only [Nf] at f9
      try simp only [↓Da, Ua, c_ref02_Encode_2, B_api_Cell, B_ar_eareapiCell16, B_api_Page, *, ↓reduceIte, Nat.reduceEqDiff, Nat.reduceAdd, Nat.reduceLT, Nat.reduceMul]
      have e0 := e_ref02_Encode_0 p h
      exact e0
    · try simp only [↓Da, Ua, c_ref02_Encode_2, B_api_Cell, B_ar_eareapiCell16, B_api_Page, *, ↓reduceIte, Nat.reduceEqDiff, Nat.reduceAdd, Nat.reduceLT, Nat.reduceMul]
      have e0 := e_ref02_Encode_0 p h
      exact e0
  · obtain ⟨o', h', rfl⟩ := mi h
    try simp only [↓Da, Ua, c_ref02_Encode_2, B_api_Cell, B_ar_eareapiCell16, B_api_Page, *, ↓reduceIte, Nat.reduceEqDiff, Nat.reduceAdd, Nat.reduceLT, Nat.reduceMul]
    have e0 := e_ref02_Encode_3 p h'
    exact e0


def W_ref02_Encode_2 (b0 : T_api_Page) (s : (List UInt8) × Int) : Option ((List UInt8) × Int) :=
  whileO (fun s => S_ref02_Encode_2 b0 s.1 s.2) s

theorem e_ref02_Encode_2_w {b0 : T_api_Page} {s : (List UInt8) × Int} {o : (List UInt8) × Int} (h : W_ref02_Encode_2 b0 s = some o) :
    rk (tabOf p) f_ref02_Encode 0 [.bl 0, .sq (.keep [1, 5] c_ref02_Encode_3)] (X (tabOf p) (.lp 1 [1, 5, 6] c_ref02_Encode_2) ⟨[(1, .ptr 0 0), (5, .p (.s s.1)), (6, .p (.i .i64 s.2))], [.box (List.map AV.p (e_api_Page b0))]⟩) = d_ref02_Encode o := by
  have h0 : whileO (fun s => S_ref02_Encode_2 b0 s.1 s.2) s = some o := h
  exact while_ind (P := fun (s : (List UInt8) × Int) (o : (List UInt8) × Int) => rk (tabOf p) f_ref02_Encode 0 [.bl 0, .sq (.keep [1, 5] c_ref02_Encode_3)] (X (tabOf p) (.lp 1 [1, 5, 6] c_ref02_Encode_2) ⟨[(1, .ptr 0 0), (5, .p (.s s.1)), (6, .p (.i .i64 s.2))], [.box (List.map AV.p (e_api_Page b0))]⟩) = d_ref02_Encode o) (fun s r hs => by rw [rk_lp]; exact e_ref02_Encode_2 p hs) (fun s s1 r hs ih => by rw [rk_lp]; exact (e_ref02_Encode_2 p hs).trans ih) h0

def S_ref02_Encode (x0 : T_api_Page) : Option ((List UInt8) × Int) :=
  Option.bind (S_ref02_Check x0) fun r1 =>
  if ((r1 : Int) != 0) then
    some (([] : List UInt8), r1)
  else
    Option.bind (S_ref01_Put ([]) x0.LSN 8) fun r5 =>
    Option.bind (S_ref01_Put r5 x0.ID 4) fun r8 =>
    W_ref02_Encode_2 x0 (r8, 0)

theorem e_ref02_Encode_top {x0 : T_api_Page} {o : (List UInt8) × Int} (h : S_ref02_Encode x0 = some o) :
    rk (tabOf p) f_ref02_Encode 0 [] (X (tabOf p) c_ref02_Encode ⟨[(0, .data (e_api_Page x0))], []⟩) = d_ref02_Encode o := by
  unfold S_ref02_Encode at h
  obtain ⟨r1, h2, h⟩ := bi h
  have f3 := q_ref02_Check p h2
  try simp only [Nf] at f3
  try simp only [↓Da, Ua, c_ref02_Encode, B_api_Cell, B_ar_eareapiCell16, B_api_Page, *, ↓reduceIte, Nat.reduceEqDiff, Nat.reduceAdd, Nat.reduceLT, Nat.reduceMul]
  rcases ite_inv h with ⟨h4, h⟩ | ⟨h4, h⟩
  · obtain rfl := sj h
    try simp only [↓Da, Ua, c_ref02_Encode, B_api_Cell, B_ar_eareapiCell16, B_api_Page, z_ref02_Encode, *, ↓reduceIte, Nat.reduceEqDiff, Nat.reduceAdd, Nat.reduceLT, Nat.reduceMul]
    rfl
  · obtain ⟨r5, h6, h⟩ := bi h
    have f7 := q_ref01_Put p h6
    try simp only [Nf] at f7
    obtain ⟨r8, h9, h⟩ := bi h
    have f10 := q_ref01_Put p h9
    try simp only [Nf] at f10
    try simp only [↓Da, Ua, c_ref02_Encode, B_api_Cell, B_ar_eareapiCell16, B_api_Page, *, ↓reduceIte, Nat.reduceEqDiff, Nat.reduceAdd, Nat.reduceLT, Nat.reduceMul]
    have e0 := e_ref02_Encode_2_w p h
    exact e0


theorem e_ref02_Encode {x0 : T_api_Page} {o : (List UInt8) × Int} (h : S_ref02_Encode x0 = some o) : AF (tabOf p) i_ref02_Encode [.data (e_api_Page x0)] [] = d_ref02_Encode o :=
  (AF_rk (tabOf p) (t_ref02_Encode p) rfl).trans (e_ref02_Encode_top p h)

theorem q_ref02_Encode {x0 : T_api_Page} {o : (List UInt8) × Int} (h : S_ref02_Encode x0 = some o) : ∀ ws new st, (callR2 (AF (tabOf p)) i_ref02_Encode ([.data (e_api_Page x0)], ws) 0 new).run st = some ⟨.tup [.p (.s o.1), .p (.i .i64 o.2)], ws⟩ := callR2_plain rfl (e_ref02_Encode p h) rfl


end
end Go.Am
end

section
namespace Go.Am
set_option maxRecDepth 8000
set_option maxHeartbeats 4000000
set_option linter.unusedSimpArgs false
set_option linter.unusedVariables false

noncomputable section
variable (p : FuncId → Option (List AV → List Blk → Option Res))

/-! pagemend/page.Valid -/

def d_page_Valid  (r : Bool) : Option Res := some (.p (.b r), [])

def S_page_Valid (x0 : T_api_Page) : Option (Bool) :=
  Option.bind (S_page_placed x0) fun r1 =>
  if r1 then
    Option.bind (S_page_cells x0) fun r5 =>
    some r5
  else
    some false

theorem e_page_Valid_top {x0 : T_api_Page} {o : Bool} (h : S_page_Valid x0 = some o) :
    rk (tabOf p) f_page_Valid 0 [] (X (tabOf p) c_page_Valid ⟨[(0, .data (e_api_Page x0))], []⟩) = d_page_Valid o := by
  unfold S_page_Valid at h
  obtain ⟨r1, h2, h⟩ := bi h
  have f3 := q_page_placed p h2
  try simp only [Nf] at f3
  try simp only [↓Da, Ua, c_page_Valid, B_api_Cell, B_ar_eareapiCell16, B_api_Page, *, ↓reduceIte, Nat.reduceEqDiff, Nat.reduceAdd, Nat.reduceLT, Nat.reduceMul]
  rcases ite_inv h with ⟨h4, h⟩ | ⟨h4, h⟩
  · obtain ⟨r5, h6, h⟩ := bi h
    have f7 := q_page_cells p h6
    try simp only [Nf] at f7
    obtain rfl := sj h
    try simp only [↓Da, Ua, c_page_Valid, B_api_Cell, B_ar_eareapiCell16, B_api_Page, z_page_Valid, *, ↓reduceIte, Nat.reduceEqDiff, Nat.reduceAdd, Nat.reduceLT, Nat.reduceMul]
    rfl
  · obtain rfl := sj h
    try simp only [↓Da, Ua, c_page_Valid, B_api_Cell, B_ar_eareapiCell16, B_api_Page, z_page_Valid, *, ↓reduceIte, Nat.reduceEqDiff, Nat.reduceAdd, Nat.reduceLT, Nat.reduceMul]
    rfl


theorem e_page_Valid {x0 : T_api_Page} {o : Bool} (h : S_page_Valid x0 = some o) : AF (tabOf p) i_page_Valid [.data (e_api_Page x0)] [] = d_page_Valid o :=
  (AF_rk (tabOf p) (t_page_Valid p) rfl).trans (e_page_Valid_top p h)

theorem q_page_Valid {x0 : T_api_Page} {o : Bool} (h : S_page_Valid x0 = some o) : ∀ ws new st, (callR2 (AF (tabOf p)) i_page_Valid ([.data (e_api_Page x0)], ws) 0 new).run st = some ⟨.p (.b o), ws⟩ := callR2_plain rfl (e_page_Valid p h) rfl

/-! pagemend/page.Decode -/

def d_page_Decode  (r : T_api_Page × Int) : Option Res := some (.tup [.data (e_api_Page r.1), .p (.i .i64 r.2)], [])

def S_page_Decode (x0 : List UInt8) : Option (T_api_Page × Int) :=
  if ((((List.length x0 : Nat) : Int) : Int) != 256) then
    some ((⟨0, 0, (Vector.replicate 16 (⟨false, []⟩ : T_api_Cell))⟩ : T_api_Page), 2)
  else
    Option.bind (S_page_Blank) fun r2 =>
    if (x0 == r2) then
      some ((⟨0, 0, (Vector.replicate 16 (⟨false, []⟩ : T_api_Cell))⟩ : T_api_Page), 7)
    else
      Option.bind (slcS x0 none (some 8)) fun m6 =>
      Option.bind (slcS x0 (some 248) none) fun m9 =>
      if (m6 == m9) then
        Option.bind (S_page_number x0 244 4) fun r13 =>
        Option.bind (slcS x0 none (some 244)) fun m16 =>
        Option.bind (S_codec_Sum m16) fun r19 =>
        if ((r13 : Int) != (IntKind.wrap .i64 r19)) then
          some ((⟨0, 0, (Vector.replicate 16 (⟨false, []⟩ : T_api_Cell))⟩ : T_api_Page), 3)
        else
          Option.bind (S_page_read x0) fun r23 =>
          Option.bind (S_page_Encode r23.1) fun r26 =>
          if r23.2 then
            if ((r26.2 : Int) != 0) then
              some ((⟨0, 0, (Vector.replicate 16 (⟨false, []⟩ : T_api_Cell))⟩ : T_api_Page), 4)
            else
              if (r26.1 == x0) then
                some (r23.1, 0)
              else
                some ((⟨0, 0, (Vector.replicate 16 (⟨false, []⟩ : T_api_Cell))⟩ : T_api_Page), 4)
          else
            some ((⟨0, 0, (Vector.replicate 16 (⟨false, []⟩ : T_api_Cell))⟩ : T_api_Page), 4)
      else
        some ((⟨0, 0, (Vector.replicate 16 (⟨false, []⟩ : T_api_Cell))⟩ : T_api_Page), 27)

theorem e_page_Decode_top {x0 : List UInt8} {o : T_api_Page × Int} (h : S_page_Decode x0 = some o) :
    rk (tabOf p) f_page_Decode 0 [] (X (tabOf p) c_page_Decode ⟨[(0, .p (.s x0))], []⟩) = d_page_Decode o := by
  unfold S_page_Decode at h
  rcases ite_inv h with ⟨h1, h⟩ | ⟨h1, h⟩
  · obtain rfl := sj h
    try simp only [↓Da, Ua, c_page_Decode, B_api_Cell, B_ar_eareapiCell16, B_api_Page, z_page_Decode, *, ↓reduceIte, Nat.reduceEqDiff, Nat.reduceAdd, Nat.reduceLT, Nat.reduceMul]
    rfl
  · obtain ⟨r2, h3, h⟩ := bi h
    have f4 := q_page_Blank p h3
    try simp only [Nf] at f4
    try simp only [↓Da, Ua, c_page_Decode, B_api_Cell, B_ar_eareapiCell16, B_api_Page, *, ↓reduceIte, Nat.reduceEqDiff, Nat.reduceAdd, Nat.reduceLT, Nat.reduceMul]
    rcases ite_inv h with ⟨h5, h⟩ | ⟨h5, h⟩
    · obtain rfl := sj h
      try simp only [↓Da, Ua, c_page_Decode, B_api_Cell, B_ar_eareapiCell16, B_api_Page, z_page_Decode, *, ↓reduceIte, Nat.reduceEqDiff, Nat.reduceAdd, Nat.reduceLT, Nat.reduceMul]
      rfl
    · obtain ⟨m6, h7, h⟩ := bi h
      have f8 : sliceS (.p (.s x0)) none (some (.p (.i .i64 8))) = some (.p (.s m6)) := sliceS_ok (k := .i64) (lo := none) (hi := (some 8)) h7
      try simp only [Nf] at f8
      obtain ⟨m9, h10, h⟩ := bi h
      have f11 : sliceS (.p (.s x0)) (some (.p (.i .i64 248))) none = some (.p (.s m9)) := sliceS_ok (k := .i64) (lo := (some 248)) (hi := none) h10
      try simp only [Nf] at f11
      try simp only [↓Da, Ua, c_page_Decode, B_api_Cell, B_ar_eareapiCell16, B_api_Page, *, ↓reduceIte, Nat.reduceEqDiff, Nat.reduceAdd, Nat.reduceLT, Nat.reduceMul]
      rcases ite_inv h with ⟨h12, h⟩ | ⟨h12, h⟩
      · obtain ⟨r13, h14, h⟩ := bi h
        have f15 := q_page_number p h14
        try simp only [Nf] at f15
        obtain ⟨m16, h17, h⟩ := bi h
        have f18 : sliceS (.p (.s x0)) none (some (.p (.i .i64 244))) = some (.p (.s m16)) := sliceS_ok (k := .i64) (lo := none) (hi := (some 244)) h17
        try simp only [Nf] at f18
        obtain ⟨r19, h20, h⟩ := bi h
        have f21 := q_codec_Sum p h20
        try simp only [Nf] at f21
        try simp only [↓Da, Ua, c_page_Decode, B_api_Cell, B_ar_eareapiCell16, B_api_Page, *, ↓reduceIte, Nat.reduceEqDiff, Nat.reduceAdd, Nat.reduceLT, Nat.reduceMul]
        rcases ite_inv h with ⟨h22, h⟩ | ⟨h22, h⟩
        · obtain rfl := sj h
          try simp only [↓Da, Ua, c_page_Decode, B_api_Cell, B_ar_eareapiCell16, B_api_Page, z_page_Decode, *, ↓reduceIte, Nat.reduceEqDiff, Nat.reduceAdd, Nat.reduceLT, Nat.reduceMul]
          rfl
        · obtain ⟨r23, h24, h⟩ := bi h
          have f25 := q_page_read p h24
          try simp only [Nf] at f25
          obtain ⟨r26, h27, h⟩ := bi h
          have f28 := q_page_Encode p h27
          try simp only [Nf] at f28
          try simp only [↓Da, Ua, c_page_Decode, B_api_Cell, B_ar_eareapiCell16, B_api_Page, *, ↓reduceIte, Nat.reduceEqDiff, Nat.reduceAdd, Nat.reduceLT, Nat.reduceMul]
          rcases ite_inv h with ⟨h29, h⟩ | ⟨h29, h⟩
          · try simp only [↓Da, Ua, c_page_Decode, B_api_Cell, B_ar_eareapiCell16, B_api_Page, *, ↓reduceIte, Nat.reduceEqDiff, Nat.reduceAdd, Nat.reduceLT, Nat.reduceMul]
            rcases ite_inv h with ⟨h30, h⟩ | ⟨h30, h⟩
            · obtain rfl := sj h
              try simp only [↓Da, Ua, c_page_Decode, B_api_Cell, B_ar_eareapiCell16, B_api_Page, z_page_Decode, *, ↓reduceIte, Nat.reduceEqDiff, Nat.reduceAdd, Nat.reduceLT, Nat.reduceMul]
              rfl
            · try simp only [↓Da, Ua, c_page_Decode, B_api_Cell, B_ar_eareapiCell16, B_api_Page, *, ↓reduceIte, Nat.reduceEqDiff, Nat.reduceAdd, Nat.reduceLT, Nat.reduceMul]
              rcases ite_inv h with ⟨h31, h⟩ | ⟨h31, h⟩
              · obtain rfl := sj h
                try simp only [↓Da, Ua, c_page_Decode, B_api_Cell, B_ar_eareapiCell16, B_api_Page, z_page_Decode, *, ↓reduceIte, Nat.reduceEqDiff, Nat.reduceAdd, Nat.reduceLT, Nat.reduceMul]
                rfl
              · obtain rfl := sj h
                try simp only [↓Da, Ua, c_page_Decode, B_api_Cell, B_ar_eareapiCell16, B_api_Page, z_page_Decode, *, ↓reduceIte, Nat.reduceEqDiff, Nat.reduceAdd, Nat.reduceLT, Nat.reduceMul]
                rfl
          · obtain rfl := sj h
            try simp only [↓Da, Ua, c_page_Decode, B_api_Cell, B_ar_eareapiCell16, B_api_Page, z_page_Decode, *, ↓reduceIte, Nat.reduceEqDiff, Nat.reduceAdd, Nat.reduceLT, Nat.reduceMul]
            rfl
      · obtain rfl := sj h
        try simp only [↓Da, Ua, c_page_Decode, B_api_Cell, B_ar_eareapiCell16, B_api_Page, z_page_Decode, *, ↓reduceIte, Nat.reduceEqDiff, Nat.reduceAdd, Nat.reduceLT, Nat.reduceMul]
        rfl


theorem e_page_Decode {x0 : List UInt8} {o : T_api_Page × Int} (h : S_page_Decode x0 = some o) : AF (tabOf p) i_page_Decode [.p (.s x0)] [] = d_page_Decode o :=
  (AF_rk (tabOf p) (t_page_Decode p) rfl).trans (e_page_Decode_top p h)

theorem q_page_Decode {x0 : List UInt8} {o : T_api_Page × Int} (h : S_page_Decode x0 = some o) : ∀ ws new st, (callR2 (AF (tabOf p)) i_page_Decode ([.p (.s x0)], ws) 0 new).run st = some ⟨.tup [.data (e_api_Page o.1), .p (.i .i64 o.2)], ws⟩ := callR2_plain rfl (e_page_Decode p h) rfl

/-! pagemend/pagemendref02.Decode -/

def d_ref02_Decode  (r : T_api_Page × Int) : Option Res := some (.tup [.data (e_api_Page r.1), .p (.i .i64 r.2)], [])

def d_ref02_Decode_1 (x0 : List UInt8) (b0 : T_api_Page) (o : (Int × T_api_Page) ⊕ (T_api_Page × Int)) : Option Res := match o with
  | .inl s => rk (tabOf p) f_ref02_Decode 0 [.bl 1, .sq (.keep [0, 2, 6] c_ref02_Decode_2)] (X (tabOf p) (.lp 2 [0, 2, 6, 7] c_ref02_Decode_1) ⟨[(0, .p (.s x0)), (2, .ptr 0 0), (6, .ptr 1 0), (7, .p (.i .i64 s.1))], [.box (List.map AV.p (e_api_Page b0)), .box (List.map AV.p (e_api_Page s.2))]⟩)
  | .inr o => d_ref02_Decode o

def S_ref02_Decode_0 (x0 : List UInt8) (x7 : Int) (b0 : T_api_Page) (b1 : T_api_Page) : Option (((Int × T_api_Page) ⊕ (T_api_Page × Int))) :=
  some (.inl ((IntKind.wrap .i64 (x7 + 1)), b1))

theorem e_ref02_Decode_0 {x0 : List UInt8} {x7 : Int} {b0 : T_api_Page} {b1 : T_api_Page} {o : ((Int × T_api_Page) ⊕ (T_api_Page × Int))} (h : S_ref02_Decode_0 x0 x7 b0 b1 = some o) :
    rk (tabOf p) f_ref02_Decode 0 [.lo 2 [0, 2, 6, 7] c_ref02_Decode_1, .bl 1, .sq (.keep [0, 2, 6] c_ref02_Decode_2)] (X (tabOf p) c_ref02_Decode_0 ⟨[(0, .p (.s x0)), (2, .ptr 0 0), (6, .ptr 1 0), (7, .p (.i .i64 x7))], [.box (List.map AV.p (e_api_Page b0)), .box (List.map AV.p (e_api_Page b1))]⟩) = (d_ref02_Decode_1 p x0 b0) o := by
  unfold S_ref02_Decode_0 at h
  obtain rfl := sj h
  try simp only [↓Da, Ua, c_ref02_Decode_0, ↓reduceIte, Nat.reduceEqDiff, Nat.reduceAdd, Nat.reduceLT, Nat.reduceMul]
  rfl


def S_ref02_Decode_2 (x0 : List UInt8) (b0 : T_api_Page) (b1 : T_api_Page) : Option (T_api_Page × Int) :=
  Option.bind (S_ref02_Encode b1) fun r1 =>
  if ((r1.2 : Int) != 0) then
    some ((⟨0, 0, (Vector.replicate 16 (⟨false, []⟩ : T_api_Cell))⟩ : T_api_Page), 4)
  else
    if (r1.1 == x0) then
      some (b1, 0)
    else
      some ((⟨0, 0, (Vector.replicate 16 (⟨false, []⟩ : T_api_Cell))⟩ : T_api_Page), 4)

theorem e_ref02_Decode_2 {x0 : List UInt8} {b0 : T_api_Page} {b1 : T_api_Page} {o : T_api_Page × Int} (h : S_ref02_Decode_2 x0 b0 b1 = some o) :
    rk (tabOf p) f_ref02_Decode 0 [] (X (tabOf p) c_ref02_Decode_2 ⟨[(0, .p (.s x0)), (2, .ptr 0 0), (6, .ptr 1 0)], [.box (List.map AV.p (e_api_Page b0)), .box (List.map AV.p (e_api_Page b1))]⟩) = d_ref02_Decode o := by
  unfold S_ref02_Decode_2 at h
  obtain ⟨r1, h2, h⟩ := bi h
  have f3 := q_ref02_Encode p h2
  try simp only [Nf] at f3
  try simp only [↓Da, Ua, c_ref02_Decode_2, B_api_Cell, B_ar_eareapiCell16, B_api_Page, *, ↓reduceIte, Nat.reduceEqDiff, Nat.reduceAdd, Nat.reduceLT, Nat.reduceMul]
  rcases ite_inv h with ⟨h4, h⟩ | ⟨h4, h⟩
  · obtain rfl := sj h
    try simp only [↓Da, Ua, c_ref02_Decode_2, B_api_Cell, B_ar_eareapiCell16, B_api_Page, z_ref02_Decode, *, ↓reduceIte, Nat.reduceEqDiff, Nat.reduceAdd, Nat.reduceLT, Nat.reduceMul]
    rfl
  · try simp only [↓Da, Ua, c_ref02_Decode_2, B_api_Cell, B_ar_eareapiCell16, B_api_Page, *, ↓reduceIte, Nat.reduceEqDiff, Nat.reduceAdd, Nat.reduceLT, Nat.reduceMul]
    rcases ite_inv h with ⟨h5, h⟩ | ⟨h5, h⟩
    · obtain rfl := sj h
      try simp only [↓Da, Ua, c_ref02_Decode_2, B_api_Cell, B_ar_eareapiCell16, B_api_Page, z_ref02_Decode, *, ↓reduceIte, Nat.reduceEqDiff, Nat.reduceAdd, Nat.reduceLT, Nat.reduceMul]
      rfl
    · obtain rfl := sj h
      try simp only [↓Da, Ua, c_ref02_Decode_2, B_api_Cell, B_ar_eareapiCell16, B_api_Page, z_ref02_Decode, *, ↓reduceIte, Nat.reduceEqDiff, Nat.reduceAdd, Nat.reduceLT, Nat.reduceMul]
      rfl


def S_ref02_Decode_1 (x0 : List UInt8) (b0 : T_api_Page) (x7 : Int) (b1 : T_api_Page) : Option (((Int × T_api_Page) ⊕ (T_api_Page × Int))) :=
  if (decide (x7 < 16)) then
    Option.bind (sidS x0 (IntKind.wrap .i64 (12 + (IntKind.wrap .i64 (x7 * 13))))) fun c2 =>
    if (((IntKind.wrap .i64 c2) : Int) == 255) then
      S_ref02_Decode_0 x0 x7 b0 b1
    else
      if (decide ((IntKind.wrap .i64 c2) > 12)) then
        some (.inr ((⟨0, 0, (Vector.replicate 16 (⟨false, []⟩ : T_api_Cell))⟩ : T_api_Page), 4))
      else
        Option.bind (slcS x0 (some (IntKind.wrap .i64 ((IntKind.wrap .i64 (12 + (IntKind.wrap .i64 (x7 * 13)))) + 1))) (some (IntKind.wrap .i64 ((IntKind.wrap .i64 ((IntKind.wrap .i64 (12 + (IntKind.wrap .i64 (x7 * 13)))) + 1)) + (IntKind.wrap .i64 c2))))) fun m6 =>
        Option.bind (inb 16 x7) fun u9 =>
        Option.bind (vget b1.Cells x7) fun y12 =>
        S_ref02_Decode_0 x0 x7 b0 (⟨b1.ID, b1.LSN, (vset b1.Cells x7 (⟨true, m6⟩ : T_api_Cell))⟩ : T_api_Page)
  else
    Option.map (fun o => .inr o) (S_ref02_Decode_2 x0 b0 b1)

theorem e_ref02_Decode_1 {x0 : List UInt8} {b0 : T_api_Page} {x7 : Int} {b1 : T_api_Page} {o : ((Int × T_api_Page) ⊕ (T_api_Page × Int))} (h : S_ref02_Decode_1 x0 b0 x7 b1 = some o) :
    rk (tabOf p) f_ref02_Decode 0 [.lo 2 [0, 2, 6, 7] c_ref02_Decode_1, .bl 1, .sq (.keep [0, 2, 6] c_ref02_Decode_2)] (X (tabOf p) c_ref02_Decode_1 ⟨[(0, .p (.s x0)), (2, .ptr 0 0), (6, .ptr 1 0), (7, .p (.i .i64 x7))], [.box (List.map AV.p (e_api_Page b0)), .box (List.map AV.p (e_api_Page b1))]⟩) = (d_ref02_Decode_1 p x0 b0) o := by
  unfold S_ref02_Decode_1 at h
  rcases ite_inv h with ⟨h1, h⟩ | ⟨h1, h⟩
  · obtain ⟨c2, h3, h⟩ := bi h
    try simp only [↓Da, Ua, c_ref02_Decode_1, B_api_Cell, B_ar_eareapiCell16, B_api_Page, *, ↓reduceIte, Nat.reduceEqDiff, Nat.reduceAdd, Nat.reduceLT, Nat.reduceMul]
    rcases ite_inv h with ⟨h4, h⟩ | ⟨h4, h⟩
    · try simp only [↓Da, Ua, c_ref02_Decode_1, B_api_Cell, B_ar_eareapiCell16, B_api_Page, *, ↓reduceIte, Nat.reduceEqDiff, Nat.reduceAdd, Nat.reduceLT, Nat.reduceMul]
      have e0 := e_ref02_Decode_0 p h
      exact e0
    · try simp only [↓Da, Ua, c_ref02_Decode_1, B_api_Cell, B_ar_eareapiCell16, B_api_Page, *, ↓reduceIte, Nat.reduceEqDiff, Nat.reduceAdd, Nat.reduceLT, Nat.reduceMul]
      rcases ite_inv h with ⟨h5, h⟩ | ⟨h5, h⟩
      · obtain rfl := sj h
        try simp only [↓Da, Ua, c_ref02_Decode_1, B_api_Cell, B_ar_eareapiCell16, B_api_Page, z_ref02_Decode, *, ↓reduceIte, Nat.reduceEqDiff, Nat.reduceAdd, Nat.reduceLT, Nat.reduceMul]
        rfl
      · obtain ⟨m6, h7, h⟩ := bi h
        have f8 : sliceS (.p (.s x0)) (some (.p (.i .i64 (IntKind.wrap .i64 ((IntKind.wrap .i64 (12 + (IntKind.wrap .i64 (x7 * 13)))) + 1))))) (some (.p (.i .i64 (IntKind.wrap .i64 ((IntKind.wrap .i64 ((IntKind.wrap .i64 (12 + (IntKind.wrap .i64 (x7 * 13)))) + 1)) + (IntKind.wrap .i64 c2)))))) = some (.p (.s m6)) := sliceS_ok (k := .i64) (lo := (some (IntKind.wrap .i64 ((IntKind.wrap .i64 (12 + (IntKind.wrap .i64 (x7 * 13)))) + 1)))) (hi := (some (IntKind.wrap .i64 ((IntKind.wrap .i64 ((IntKind.wrap .i64 (12 + (IntKind.wrap .i64 (x7 * 13)))) + 1)) + (IntKind.wrap .i64 c2))))) h7
        try simp only [Nf] at f8
        obtain ⟨u9, h10, h⟩ := bi h
        have f11 : (0 ≤ (x7 : Int) ∧ (x7 : Int) < ((16 : Nat) : Int)) = True := eq_true (inb_iff h10)
        obtain ⟨y12, h13, h⟩ := bi h
        have f14 : spl (e_api_Page b1) (2 + Int.toNat x7 * 2) (e_api_Cell (⟨true, m6⟩ : T_api_Cell)) = some (e_api_Page (⟨b1.ID, b1.LSN, (vset b1.Cells x7 (⟨true, m6⟩ : T_api_Cell))⟩ : T_api_Page)) := by
          have e0 := (spl_spl (sub_api_Page_Cells b1) (ar_spl (v := b1.Cells) len_api_Cell (vget_lt h13) (⟨true, m6⟩ : T_api_Cell)) (spl_api_Page_Cells b1 _))
          exact e0
        try simp only [Nf] at f14
        try simp only [↓Da, Ua, c_ref02_Decode_1, B_api_Cell, B_ar_eareapiCell16, B_api_Page, *, ↓reduceIte, Nat.reduceEqDiff, Nat.reduceAdd, Nat.reduceLT, Nat.reduceMul]
        have e0 := e_ref02_Decode_0 p h
        exact e0
  · obtain ⟨o', h', rfl⟩ := mi h
    try simp only [↓Da, Ua, c_ref02_Decode_1, B_api_Cell, B_ar_eareapiCell16, B_api_Page, *, ↓reduceIte, Nat.reduceEqDiff, Nat.reduceAdd, Nat.reduceLT, Nat.reduceMul]
    have e0 := e_ref02_Decode_2 p h'
    exact e0


def W_ref02_Decode_1 (x0 : List UInt8) (b0 : T_api_Page) (s : Int × T_api_Page) : Option (T_api_Page × Int) :=
  whileO (fun s => S_ref02_Decode_1 x0 b0 s.1 s.2) s

theorem e_ref02_Decode_1_w {x0 : List UInt8} {b0 : T_api_Page} {s : Int × T_api_Page} {o : T_api_Page × Int} (h : W_ref02_Decode_1 x0 b0 s = some o) :
    rk (tabOf p) f_ref02_Decode 0 [.bl 1, .sq (.keep [0, 2, 6] c_ref02_Decode_2)] (X (tabOf p) (.lp 2 [0, 2, 6, 7] c_ref02_Decode_1) ⟨[(0, .p (.s x0)), (2, .ptr 0 0), (6, .ptr 1 0), (7, .p (.i .i64 s.1))], [.box (List.map AV.p (e_api_Page b0)), .box (List.map AV.p (e_api_Page s.2))]⟩) = d_ref02_Decode o := by
  have h0 : whileO (fun s => S_ref02_Decode_1 x0 b0 s.1 s.2) s = some o := h
  exact while_ind (P := fun (s : Int × T_api_Page) (o : T_api_Page × Int) => rk (tabOf p) f_ref02_Decode 0 [.bl 1, .sq (.keep [0, 2, 6] c_ref02_Decode_2)] (X (tabOf p) (.lp 2 [0, 2, 6, 7] c_ref02_Decode_1) ⟨[(0, .p (.s x0)), (2, .ptr 0 0), (6, .ptr 1 0), (7, .p (.i .i64 s.1))], [.box (List.map AV.p (e_api_Page b0)), .box (List.map AV.p (e_api_Page s.2))]⟩) = d_ref02_Decode o) (fun s r hs => by rw [rk_lp]; exact e_ref02_Decode_1 p hs) (fun s s1 r hs ih => by rw [rk_lp]; exact (e_ref02_Decode_1 p hs).trans ih) h0

def S_ref02_Decode (x0 : List UInt8) : Option (T_api_Page × Int) :=
  if ((((List.length x0 : Nat) : Int) : Int) != 256) then
    some ((⟨0, 0, (Vector.replicate 16 (⟨false, []⟩ : T_api_Cell))⟩ : T_api_Page), 2)
  else
    Option.bind (S_ref02_Blank) fun r2 =>
    if (x0 == r2) then
      some ((⟨0, 0, (Vector.replicate 16 (⟨false, []⟩ : T_api_Cell))⟩ : T_api_Page), 7)
    else
      Option.bind (slcS x0 none (some 8)) fun m6 =>
      Option.bind (slcS x0 (some 248) none) fun m9 =>
      if (m6 == m9) then
        Option.bind (S_ref01_Get x0 244 4) fun r13 =>
        Option.bind (slcS x0 none (some 244)) fun m16 =>
        Option.bind (S_ref01_Sum m16) fun r19 =>
        if (((IntKind.wrap .u32 r13.1) : Int) != r19) then
          some ((⟨0, 0, (Vector.replicate 16 (⟨false, []⟩ : T_api_Cell))⟩ : T_api_Page), 3)
        else
          Option.bind (S_ref01_Get x0 0 8) fun r23 =>
          Option.bind (S_ref01_Get x0 8 4) fun r26 =>
          W_ref02_Decode_1 x0 (⟨0, 0, (Vector.replicate 16 (⟨false, []⟩ : T_api_Cell))⟩ : T_api_Page) (0, (⟨r26.1, r23.1, (Vector.replicate 16 (⟨false, []⟩ : T_api_Cell))⟩ : T_api_Page))
      else
        some ((⟨0, 0, (Vector.replicate 16 (⟨false, []⟩ : T_api_Cell))⟩ : T_api_Page), 27)

theorem e_ref02_Decode_top {x0 : List UInt8} {o : T_api_Page × Int} (h : S_ref02_Decode x0 = some o) :
    rk (tabOf p) f_ref02_Decode 0 [] (X (tabOf p) c_ref02_Decode ⟨[(0, .p (.s x0))], []⟩) = d_ref02_Decode o := by
  unfold S_ref02_Decode at h
  rcases ite_inv h with ⟨h1, h⟩ | ⟨h1, h⟩
  · obtain rfl := sj h
    try simp only [↓Da, Ua, c_ref02_Decode, B_api_Cell, B_ar_eareapiCell16, B_api_Page, z_ref02_Decode, *, ↓reduceIte, Nat.reduceEqDiff, Nat.reduceAdd, Nat.reduceLT, Nat.reduceMul]
    rfl
  · obtain ⟨r2, h3, h⟩ := bi h
    have f4 := q_ref02_Blank p h3
    try simp only [Nf] at f4
    try simp only [↓Da, Ua, c_ref02_Decode, B_api_Cell, B_ar_eareapiCell16, B_api_Page, *, ↓reduceIte, Nat.reduceEqDiff, Nat.reduceAdd, Nat.reduceLT, Nat.reduceMul]
    rcases ite_inv h with ⟨h5, h⟩ | ⟨h5, h⟩
    · obtain rfl := sj h
      try simp only [↓Da, Ua, c_ref02_Decode, B_api_Cell, B_ar_eareapiCell16, B_api_Page, z_ref02_Decode, *, ↓reduceIte, Nat.reduceEqDiff, Nat.reduceAdd, Nat.reduceLT, Nat.reduceMul]
      rfl
    · obtain ⟨m6, h7, h⟩ := bi h
      have f8 : sliceS (.p (.s x0)) none (some (.p (.i .i64 8))) = some (.p (.s m6)) := sliceS_ok (k := .i64) (lo := none) (hi := (some 8)) h7
      try simp only [Nf] at f8
      obtain ⟨m9, h10, h⟩ := bi h
      have f11 : sliceS (.p (.s x0)) (some (.p (.i .i64 248))) none = some (.p (.s m9)) := sliceS_ok (k := .i64) (lo := (some 248)) (hi := none) h10
      try simp only [Nf] at f11
      try simp only [↓Da, Ua, c_ref02_Decode, B_api_Cell, B_ar_eareapiCell16, B_api_Page, *, ↓reduceIte, Nat.reduceEqDiff, Nat.reduceAdd, Nat.reduceLT, Nat.reduceMul]
      rcases ite_inv h with ⟨h12, h⟩ | ⟨h12, h⟩
      · obtain ⟨r13, h14, h⟩ := bi h
        have f15 := q_ref01_Get p h14
        try simp only [Nf] at f15
        obtain ⟨m16, h17, h⟩ := bi h
        have f18 : sliceS (.p (.s x0)) none (some (.p (.i .i64 244))) = some (.p (.s m16)) := sliceS_ok (k := .i64) (lo := none) (hi := (some 244)) h17
        try simp only [Nf] at f18
        obtain ⟨r19, h20, h⟩ := bi h
        have f21 := q_ref01_Sum p h20
        try simp only [Nf] at f21
        try simp only [↓Da, Ua, c_ref02_Decode, B_api_Cell, B_ar_eareapiCell16, B_api_Page, *, ↓reduceIte, Nat.reduceEqDiff, Nat.reduceAdd, Nat.reduceLT, Nat.reduceMul]
        rcases ite_inv h with ⟨h22, h⟩ | ⟨h22, h⟩
        · obtain rfl := sj h
          try simp only [↓Da, Ua, c_ref02_Decode, B_api_Cell, B_ar_eareapiCell16, B_api_Page, z_ref02_Decode, *, ↓reduceIte, Nat.reduceEqDiff, Nat.reduceAdd, Nat.reduceLT, Nat.reduceMul]
          rfl
        · obtain ⟨r23, h24, h⟩ := bi h
          have f25 := q_ref01_Get p h24
          try simp only [Nf] at f25
          obtain ⟨r26, h27, h⟩ := bi h
          have f28 := q_ref01_Get p h27
          try simp only [Nf] at f28
          try simp only [↓Da, Ua, c_ref02_Decode, B_api_Cell, B_ar_eareapiCell16, B_api_Page, *, ↓reduceIte, Nat.reduceEqDiff, Nat.reduceAdd, Nat.reduceLT, Nat.reduceMul]
          have e0 := e_ref02_Decode_1_w p h
          exact e0
      · obtain rfl := sj h
        try simp only [↓Da, Ua, c_ref02_Decode, B_api_Cell, B_ar_eareapiCell16, B_api_Page, z_ref02_Decode, *, ↓reduceIte, Nat.reduceEqDiff, Nat.reduceAdd, Nat.reduceLT, Nat.reduceMul]
        rfl


theorem e_ref02_Decode {x0 : List UInt8} {o : T_api_Page × Int} (h : S_ref02_Decode x0 = some o) : AF (tabOf p) i_ref02_Decode [.p (.s x0)] [] = d_ref02_Decode o :=
  (AF_rk (tabOf p) (t_ref02_Decode p) rfl).trans (e_ref02_Decode_top p h)

theorem q_ref02_Decode {x0 : List UInt8} {o : T_api_Page × Int} (h : S_ref02_Decode x0 = some o) : ∀ ws new st, (callR2 (AF (tabOf p)) i_ref02_Decode ([.p (.s x0)], ws) 0 new).run st = some ⟨.tup [.data (e_api_Page o.1), .p (.i .i64 o.2)], ws⟩ := callR2_plain rfl (e_ref02_Decode p h) rfl

/-! pagemend/page.Identify -/

def d_page_Identify  (r : T_api_Page × Int) : Option Res := some (.tup [.data (e_api_Page r.1), .p (.i .i64 r.2)], [])

def S_page_Identify (x0 : List UInt8) (x1 : Int) : Option (T_api_Page × Int) :=
  Option.bind (S_page_named x1) fun r1 =>
  if r1 then
    Option.bind (S_page_Decode x0) fun r5 =>
    if ((r5.2 : Int) == 7) then
      Option.bind (S_page_New x1) fun r9 =>
      some (r9, 0)
    else
      if ((r5.2 : Int) != 0) then
        some ((⟨0, 0, (Vector.replicate 16 (⟨false, []⟩ : T_api_Cell))⟩ : T_api_Page), r5.2)
      else
        if ((r5.1.ID : Int) != x1) then
          some ((⟨0, 0, (Vector.replicate 16 (⟨false, []⟩ : T_api_Cell))⟩ : T_api_Page), 6)
        else
          some (r5.1, 0)
  else
    some ((⟨0, 0, (Vector.replicate 16 (⟨false, []⟩ : T_api_Cell))⟩ : T_api_Page), 1)

theorem e_page_Identify_top {x0 : List UInt8} {x1 : Int} {o : T_api_Page × Int} (h : S_page_Identify x0 x1 = some o) :
    rk (tabOf p) f_page_Identify 0 [] (X (tabOf p) c_page_Identify ⟨[(0, .p (.s x0)), (1, .p (.i .i64 x1))], []⟩) = d_page_Identify o := by
  unfold S_page_Identify at h
  obtain ⟨r1, h2, h⟩ := bi h
  have f3 := q_page_named p h2
  try simp only [Nf] at f3
  try simp only [↓Da, Ua, c_page_Identify, B_api_Cell, B_ar_eareapiCell16, B_api_Page, *, ↓reduceIte, Nat.reduceEqDiff, Nat.reduceAdd, Nat.reduceLT, Nat.reduceMul]
  rcases ite_inv h with ⟨h4, h⟩ | ⟨h4, h⟩
  · obtain ⟨r5, h6, h⟩ := bi h
    have f7 := q_page_Decode p h6
    try simp only [Nf] at f7
    try simp only [↓Da, Ua, c_page_Identify, B_api_Cell, B_ar_eareapiCell16, B_api_Page, *, ↓reduceIte, Nat.reduceEqDiff, Nat.reduceAdd, Nat.reduceLT, Nat.reduceMul]
    rcases ite_inv h with ⟨h8, h⟩ | ⟨h8, h⟩
    · obtain ⟨r9, h10, h⟩ := bi h
      have f11 := q_page_New p h10
      try simp only [Nf] at f11
      obtain rfl := sj h
      try simp only [↓Da, Ua, c_page_Identify, B_api_Cell, B_ar_eareapiCell16, B_api_Page, z_page_Identify, *, ↓reduceIte, Nat.reduceEqDiff, Nat.reduceAdd, Nat.reduceLT, Nat.reduceMul]
      rfl
    · try simp only [↓Da, Ua, c_page_Identify, B_api_Cell, B_ar_eareapiCell16, B_api_Page, *, ↓reduceIte, Nat.reduceEqDiff, Nat.reduceAdd, Nat.reduceLT, Nat.reduceMul]
      rcases ite_inv h with ⟨h12, h⟩ | ⟨h12, h⟩
      · obtain rfl := sj h
        try simp only [↓Da, Ua, c_page_Identify, B_api_Cell, B_ar_eareapiCell16, B_api_Page, z_page_Identify, *, ↓reduceIte, Nat.reduceEqDiff, Nat.reduceAdd, Nat.reduceLT, Nat.reduceMul]
        rfl
      · try simp only [↓Da, Ua, c_page_Identify, B_api_Cell, B_ar_eareapiCell16, B_api_Page, *, ↓reduceIte, Nat.reduceEqDiff, Nat.reduceAdd, Nat.reduceLT, Nat.reduceMul]
        rcases ite_inv h with ⟨h13, h⟩ | ⟨h13, h⟩
        · obtain rfl := sj h
          try simp only [↓Da, Ua, c_page_Identify, B_api_Cell, B_ar_eareapiCell16, B_api_Page, z_page_Identify, *, ↓reduceIte, Nat.reduceEqDiff, Nat.reduceAdd, Nat.reduceLT, Nat.reduceMul]
          rfl
        · obtain rfl := sj h
          try simp only [↓Da, Ua, c_page_Identify, B_api_Cell, B_ar_eareapiCell16, B_api_Page, z_page_Identify, *, ↓reduceIte, Nat.reduceEqDiff, Nat.reduceAdd, Nat.reduceLT, Nat.reduceMul]
          rfl
  · obtain rfl := sj h
    try simp only [↓Da, Ua, c_page_Identify, B_api_Cell, B_ar_eareapiCell16, B_api_Page, z_page_Identify, *, ↓reduceIte, Nat.reduceEqDiff, Nat.reduceAdd, Nat.reduceLT, Nat.reduceMul]
    rfl


theorem e_page_Identify {x0 : List UInt8} {x1 : Int} {o : T_api_Page × Int} (h : S_page_Identify x0 x1 = some o) : AF (tabOf p) i_page_Identify [.p (.s x0), .p (.i .i64 x1)] [] = d_page_Identify o :=
  (AF_rk (tabOf p) (t_page_Identify p) rfl).trans (e_page_Identify_top p h)

theorem q_page_Identify {x0 : List UInt8} {x1 : Int} {o : T_api_Page × Int} (h : S_page_Identify x0 x1 = some o) : ∀ ws new st, (callR2 (AF (tabOf p)) i_page_Identify ([.p (.s x0), .p (.i .i64 x1)], ws) 0 new).run st = some ⟨.tup [.data (e_api_Page o.1), .p (.i .i64 o.2)], ws⟩ := callR2_plain rfl (e_page_Identify p h) rfl

/-! pagemend/pagemendref02.Identify -/

def d_ref02_Identify  (r : T_api_Page × Int) : Option Res := some (.tup [.data (e_api_Page r.1), .p (.i .i64 r.2)], [])

def S_ref02_Identify (x0 : List UInt8) (x1 : Int) : Option (T_api_Page × Int) :=
  if (decide (x1 < 0)) then
    some ((⟨0, 0, (Vector.replicate 16 (⟨false, []⟩ : T_api_Cell))⟩ : T_api_Page), 1)
  else
    if (decide (x1 ≥ 64)) then
      some ((⟨0, 0, (Vector.replicate 16 (⟨false, []⟩ : T_api_Cell))⟩ : T_api_Page), 1)
    else
      Option.bind (S_ref02_Decode x0) fun r3 =>
      if ((r3.2 : Int) == 7) then
        Option.bind (S_ref02_New x1) fun r7 =>
        some (r7, 0)
      else
        if ((r3.2 : Int) == 0) then
          if ((r3.1.ID : Int) != x1) then
            some ((⟨0, 0, (Vector.replicate 16 (⟨false, []⟩ : T_api_Cell))⟩ : T_api_Page), 6)
          else
            some (r3.1, r3.2)
        else
          some (r3.1, r3.2)

theorem e_ref02_Identify_top {x0 : List UInt8} {x1 : Int} {o : T_api_Page × Int} (h : S_ref02_Identify x0 x1 = some o) :
    rk (tabOf p) f_ref02_Identify 0 [] (X (tabOf p) c_ref02_Identify ⟨[(0, .p (.s x0)), (1, .p (.i .i64 x1))], []⟩) = d_ref02_Identify o := by
  unfold S_ref02_Identify at h
  rcases ite_inv h with ⟨h1, h⟩ | ⟨h1, h⟩
  · obtain rfl := sj h
    try simp only [↓Da, Ua, c_ref02_Identify, B_api_Cell, B_ar_eareapiCell16, B_api_Page, z_ref02_Identify, *, ↓reduceIte, Nat.reduceEqDiff, Nat.reduceAdd, Nat.reduceLT, Nat.reduceMul]
    rfl
  · try simp only [↓Da, Ua, c_ref02_Identify, B_api_Cell, B_ar_eareapiCell16, B_api_Page, *, ↓reduceIte, Nat.reduceEqDiff, Nat.reduceAdd, Nat.reduceLT, Nat.reduceMul]
    rcases ite_inv h with ⟨h2, h⟩ | ⟨h2, h⟩
    · obtain rfl := sj h
      try simp only [↓Da, Ua, c_ref02_Identify, B_api_Cell, B_ar_eareapiCell16, B_api_Page, z_ref02_Identify, *, ↓reduceIte, Nat.reduceEqDiff, Nat.reduceAdd, Nat.reduceLT, Nat.reduceMul]
      rfl
    · obtain ⟨r3, h4, h⟩ := bi h
      have f5 := q_ref02_Decode p h4
      try simp only [Nf] at f5
      try simp only [↓Da, Ua, c_ref02_Identify, B_api_Cell, B_ar_eareapiCell16, B_api_Page, *, ↓reduceIte, Nat.reduceEqDiff, Nat.reduceAdd, Nat.reduceLT, Nat.reduceMul]
      rcases ite_inv h with ⟨h6, h⟩ | ⟨h6, h⟩
      · obtain ⟨r7, h8, h⟩ := bi h
        have f9 := q_ref02_New p h8
        try simp only [Nf] at f9
        obtain rfl := sj h
        try simp only [↓Da, Ua, c_ref02_Identify, B_api_Cell, B_ar_eareapiCell16, B_api_Page, z_ref02_Identify, *, ↓reduceIte, Nat.reduceEqDiff, Nat.reduceAdd, Nat.reduceLT, Nat.reduceMul]
        rfl
      · try simp only [↓Da, Ua, c_ref02_Identify, B_api_Cell, B_ar_eareapiCell16, B_api_Page, *, ↓reduceIte, Nat.reduceEqDiff, Nat.reduceAdd, Nat.reduceLT, Nat.reduceMul]
        rcases ite_inv h with ⟨h10, h⟩ | ⟨h10, h⟩
        · try simp only [↓Da, Ua, c_ref02_Identify, B_api_Cell, B_ar_eareapiCell16, B_api_Page, *, ↓reduceIte, Nat.reduceEqDiff, Nat.reduceAdd, Nat.reduceLT, Nat.reduceMul]
          rcases ite_inv h with ⟨h11, h⟩ | ⟨h11, h⟩
          · obtain rfl := sj h
            try simp only [↓Da, Ua, c_ref02_Identify, B_api_Cell, B_ar_eareapiCell16, B_api_Page, z_ref02_Identify, *, ↓reduceIte, Nat.reduceEqDiff, Nat.reduceAdd, Nat.reduceLT, Nat.reduceMul]
            rfl
          · obtain rfl := sj h
            try simp only [↓Da, Ua, c_ref02_Identify, B_api_Cell, B_ar_eareapiCell16, B_api_Page, z_ref02_Identify, *, ↓reduceIte, Nat.reduceEqDiff, Nat.reduceAdd, Nat.reduceLT, Nat.reduceMul]
            rfl
        · obtain rfl := sj h
          try simp only [↓Da, Ua, c_ref02_Identify, B_api_Cell, B_ar_eareapiCell16, B_api_Page, z_ref02_Identify, *, ↓reduceIte, Nat.reduceEqDiff, Nat.reduceAdd, Nat.reduceLT, Nat.reduceMul]
          rfl


theorem e_ref02_Identify {x0 : List UInt8} {x1 : Int} {o : T_api_Page × Int} (h : S_ref02_Identify x0 x1 = some o) : AF (tabOf p) i_ref02_Identify [.p (.s x0), .p (.i .i64 x1)] [] = d_ref02_Identify o :=
  (AF_rk (tabOf p) (t_ref02_Identify p) rfl).trans (e_ref02_Identify_top p h)

theorem q_ref02_Identify {x0 : List UInt8} {x1 : Int} {o : T_api_Page × Int} (h : S_ref02_Identify x0 x1 = some o) : ∀ ws new st, (callR2 (AF (tabOf p)) i_ref02_Identify ([.p (.s x0), .p (.i .i64 x1)], ws) 0 new).run st = some ⟨.tup [.data (e_api_Page o.1), .p (.i .i64 o.2)], ws⟩ := callR2_plain rfl (e_ref02_Identify p h) rfl

/-! pagemend/pagemendlaw02.awake -/

def d_law02_awake  (r : Bool) : Option Res := some (.p (.b r), [])

def S_law02_awake  : Option (Bool) :=
  Option.bind (S_page_New 3) fun r1 =>
  Option.bind (S_page_Encode r1) fun r4 =>
  if ((r4.2 : Int) == 0) then
    if ((((List.length r4.1 : Nat) : Int) : Int) == 256) then
      Option.bind (sidS r4.1 8) fun c9 =>
      some ((c9 : Int) == 3)
    else
      some false
  else
    some false

theorem e_law02_awake_top  {o : Bool} (h : S_law02_awake = some o) :
    rk (tabOf p) f_law02_awake 0 [] (X (tabOf p) c_law02_awake ⟨[], []⟩) = d_law02_awake o := by
  unfold S_law02_awake at h
  obtain ⟨r1, h2, h⟩ := bi h
  have f3 := q_page_New p h2
  try simp only [Nf] at f3
  obtain ⟨r4, h5, h⟩ := bi h
  have f6 := q_page_Encode p h5
  try simp only [Nf] at f6
  try simp only [↓Da, Ua, c_law02_awake, B_api_Cell, B_ar_eareapiCell16, B_api_Page, *, ↓reduceIte, Nat.reduceEqDiff, Nat.reduceAdd, Nat.reduceLT, Nat.reduceMul]
  rcases ite_inv h with ⟨h7, h⟩ | ⟨h7, h⟩
  · try simp only [↓Da, Ua, c_law02_awake, B_api_Cell, B_ar_eareapiCell16, B_api_Page, *, ↓reduceIte, Nat.reduceEqDiff, Nat.reduceAdd, Nat.reduceLT, Nat.reduceMul]
    rcases ite_inv h with ⟨h8, h⟩ | ⟨h8, h⟩
    · obtain ⟨c9, h10, h⟩ := bi h
      obtain rfl := sj h
      try simp only [↓Da, Ua, c_law02_awake, B_api_Cell, B_ar_eareapiCell16, B_api_Page, z_law02_awake, *, ↓reduceIte, Nat.reduceEqDiff, Nat.reduceAdd, Nat.reduceLT, Nat.reduceMul]
      rfl
    · obtain rfl := sj h
      try simp only [↓Da, Ua, c_law02_awake, B_api_Cell, B_ar_eareapiCell16, B_api_Page, z_law02_awake, *, ↓reduceIte, Nat.reduceEqDiff, Nat.reduceAdd, Nat.reduceLT, Nat.reduceMul]
      rfl
  · obtain rfl := sj h
    try simp only [↓Da, Ua, c_law02_awake, B_api_Cell, B_ar_eareapiCell16, B_api_Page, z_law02_awake, *, ↓reduceIte, Nat.reduceEqDiff, Nat.reduceAdd, Nat.reduceLT, Nat.reduceMul]
    rfl


theorem e_law02_awake  {o : Bool} (h : S_law02_awake = some o) : AF (tabOf p) i_law02_awake [] [] = d_law02_awake o :=
  (AF_rk (tabOf p) (t_law02_awake p) rfl).trans (e_law02_awake_top p h)

theorem q_law02_awake  {o : Bool} (h : S_law02_awake = some o) : ∀ ws new st, (callR2 (AF (tabOf p)) i_law02_awake ([], ws) 0 new).run st = some ⟨.p (.b o), ws⟩ := callR2_plain rfl (e_law02_awake p h) rfl

/-! pagemend/pagemendlaw02.PageInjective -/

def d_law02_PageInjective  (r : Bool) : Option Res := some (.p (.b r), [])

def S_law02_PageInjective (x0 : List Int) (x1 : List Int) : Option (Bool) :=
  Option.bind (S_law02_awake) fun r1 =>
  if r1 then
    Option.bind (S_draw_New x0 100) fun r5 =>
    Option.bind (S_draw_New x1 100) fun r8 =>
    Option.bind (S_draw_Codes_Next r5 3) fun r11 =>
    Option.bind (S_draw_Codes_Page r11.2 r11.1) fun r14 =>
    Option.bind (S_draw_Codes_Next r8 3) fun r17 =>
    Option.bind (S_draw_Codes_Page r17.2 r17.1) fun r20 =>
    Option.bind (S_draw_Codes_OddPage r14.2 r14.1) fun r23 =>
    Option.bind (S_page_Encode r14.1) fun r26 =>
    Option.bind (S_page_Encode r20.1) fun r29 =>
    Option.bind (S_page_Encode r23.1) fun r32 =>
    if ((r26.2 : Int) != 0) then
      some false
    else
      if ((r29.2 : Int) != 0) then
        some false
      else
        Option.bind (S_ref02_Valid r23.1) fun r37 =>
        if (((r32.2 : Int) == 0) == r37) then
          if ((r26.1 == r29.1) == (r14.1 == r20.1)) then
            if ((r32.2 : Int) != 0) then
              some true
            else
              some ((r26.1 == r32.1) == (r14.1 == r23.1))
          else
            some false
        else
          some false
  else
    some false

theorem e_law02_PageInjective_top {x0 : List Int} {x1 : List Int} {o : Bool} (h : S_law02_PageInjective x0 x1 = some o) :
    rk (tabOf p) f_law02_PageInjective 0 [] (X (tabOf p) c_law02_PageInjective ⟨[(0, .p (.sl 1 (List.map (r_i .u8) x0))), (1, .p (.sl 1 (List.map (r_i .u8) x1)))], []⟩) = d_law02_PageInjective o := by
  unfold S_law02_PageInjective at h
  obtain ⟨r1, h2, h⟩ := bi h
  have f3 := q_law02_awake p h2
  try simp only [Nf] at f3
  try simp only [↓Da, Ua, c_law02_PageInjective, B_api_Cell, B_ar_eareapiCell16, B_api_Page, B_pagemenddraw_Codes, *, ↓reduceIte, Nat.reduceEqDiff, Nat.reduceAdd, Nat.reduceLT, Nat.reduceMul]
  rcases ite_inv h with ⟨h4, h⟩ | ⟨h4, h⟩
  · obtain ⟨r5, h6, h⟩ := bi h
    have f7 : ∀ ws new s, (callR2 (AF (tabOf p)) i_draw_New ([.p (.sl 1 (List.map (r_i .u8) x0)), .p (.i .i64 100)], ws) 1 new).run s = some ⟨.ptr new 0, ws ++ [(new, .box (List.map AV.p (e_pagemenddraw_Codes r5)))]⟩ := callR2_new rfl (e_draw_New p h6) (all_plain_mapp _)
    try simp only [Nf] at f7
    obtain ⟨r8, h9, h⟩ := bi h
    have f10 : ∀ ws new s, (callR2 (AF (tabOf p)) i_draw_New ([.p (.sl 1 (List.map (r_i .u8) x1)), .p (.i .i64 100)], ws) 1 new).run s = some ⟨.ptr new 0, ws ++ [(new, .box (List.map AV.p (e_pagemenddraw_Codes r8)))]⟩ := callR2_new rfl (e_draw_New p h9) (all_plain_mapp _)
    try simp only [Nf] at f10
    obtain ⟨r11, h12, h⟩ := bi h
    have f13 : ∀ ws new s, boxesAt ws s [0] [List.map AV.p (e_pagemenddraw_Codes r5)] → (callR2 (AF (tabOf p)) i_draw_Codes_Next ([.ptr 0 0, .p (.i .i64 3)], ws) 0 new).run s = some ⟨.p (.i .i64 r11.1), ws ++ [(0, .box (List.map AV.p (e_pagemenddraw_Codes r11.2)))]⟩ := callR2_ptrs (args' := [.ptr 0 0, .p (.i .i64 3)]) (bs := [0]) (css := [List.map AV.p (e_pagemenddraw_Codes r5)]) (css' := [List.map AV.p (e_pagemenddraw_Codes r11.2)]) rfl rfl rfl (by simp [allPlain, all_plain_mapp]) (e_draw_Codes_Next p h12) rfl rfl (by simp [allPlain, all_plain_mapp])
    try simp only [Nf] at f13
    obtain ⟨r14, h15, h⟩ := bi h
    have f16 : ∀ ws new s, boxesAt ws s [0] [List.map AV.p (e_pagemenddraw_Codes r11.2)] → (callR2 (AF (tabOf p)) i_draw_Codes_Page ([.ptr 0 0, .p (.i .i64 r11.1)], ws) 0 new).run s = some ⟨.data (e_api_Page r14.1), ws ++ [(0, .box (List.map AV.p (e_pagemenddraw_Codes r14.2)))]⟩ := callR2_ptrs (args' := [.ptr 0 0, .p (.i .i64 r11.1)]) (bs := [0]) (css := [List.map AV.p (e_pagemenddraw_Codes r11.2)]) (css' := [List.map AV.p (e_pagemenddraw_Codes r14.2)]) rfl rfl rfl (by simp [allPlain, all_plain_mapp]) (e_draw_Codes_Page p h15) rfl rfl (by simp [allPlain, all_plain_mapp])
    try simp only [Nf] at f16
    obtain ⟨r17, h18, h⟩ := bi h
    have f19 : ∀ ws new s, boxesAt ws s [1] [List.map AV.p (e_pagemenddraw_Codes r8)] → (callR2 (AF (tabOf p)) i_draw_Codes_Next ([.ptr 1 0, .p (.i .i64 3)], ws) 0 new).run s = some ⟨.p (.i .i64 r17.1), ws ++ [(1, .box (List.map AV.p (e_pagemenddraw_Codes r17.2)))]⟩ := callR2_ptrs (args' := [.ptr 0 0, .p (.i .i64 3)]) (bs := [1]) (css := [List.map AV.p (e_pagemenddraw_Codes r8)]) (css' := [List.map AV.p (e_pagemenddraw_Codes r17.2)]) rfl rfl rfl (by simp [allPlain, all_plain_mapp]) (e_draw_Codes_Next p h18) rfl rfl (by simp [allPlain, all_plain_mapp])
    try simp only [Nf] at f19
    obtain ⟨r20, h21, h⟩ := bi h
    have f22 : ∀ ws new s, boxesAt ws s [1] [List.map AV.p (e_pagemenddraw_Codes r17.2)] → (callR2 (AF (tabOf p)) i_draw_Codes_Page ([.ptr 1 0, .p (.i .i64 r17.1)], ws) 0 new).run s = some ⟨.data (e_api_Page r20.1), ws ++ [(1, .box (List.map AV.p (e_pagemenddraw_Codes r20.2)))]⟩ := callR2_ptrs (args' := [.ptr 0 0, .p (.i .i64 r17.1)]) (bs := [1]) (css := [List.map AV.p (e_pagemenddraw_Codes r17.2)]) (css' := [List.map AV.p (e_pagemenddraw_Codes r20.2)]) rfl rfl rfl (by simp [allPlain, all_plain_mapp]) (e_draw_Codes_Page p h21) rfl rfl (by simp [allPlain, all_plain_mapp])
    try simp only [Nf] at f22
    obtain ⟨r23, h24, h⟩ := bi h
    have f25 : ∀ ws new s, boxesAt ws s [0] [List.map AV.p (e_pagemenddraw_Codes r14.2)] → (callR2 (AF (tabOf p)) i_draw_Codes_OddPage ([.ptr 0 0, .data (e_api_Page r14.1)], ws) 0 new).run s = some ⟨.data (e_api_Page r23.1), ws ++ [(0, .box (List.map AV.p (e_pagemenddraw_Codes r23.2)))]⟩ := callR2_ptrs (args' := [.ptr 0 0, .data (e_api_Page r14.1)]) (bs := [0]) (css := [List.map AV.p (e_pagemenddraw_Codes r14.2)]) (css' := [List.map AV.p (e_pagemenddraw_Codes r23.2)]) rfl rfl rfl (by simp [allPlain, all_plain_mapp]) (e_draw_Codes_OddPage p h24) rfl rfl (by simp [allPlain, all_plain_mapp])
    try simp only [Nf] at f25
    obtain ⟨r26, h27, h⟩ := bi h
    have f28 := q_page_Encode p h27
    try simp only [Nf] at f28
    obtain ⟨r29, h30, h⟩ := bi h
    have f31 := q_page_Encode p h30
    try simp only [Nf] at f31
    obtain ⟨r32, h33, h⟩ := bi h
    have f34 := q_page_Encode p h33
    try simp only [Nf] at f34
    try simp only [↓Da, Ua, c_law02_PageInjective, B_api_Cell, B_ar_eareapiCell16, B_api_Page, B_pagemenddraw_Codes, *, ↓reduceIte, Nat.reduceEqDiff, Nat.reduceAdd, Nat.reduceLT, Nat.reduceMul]
    rcases ite_inv h with ⟨h35, h⟩ | ⟨h35, h⟩
    · obtain rfl := sj h
      try simp only [↓Da, Ua, c_law02_PageInjective, B_api_Cell, B_ar_eareapiCell16, B_api_Page, B_pagemenddraw_Codes, z_law02_PageInjective, *, ↓reduceIte, Nat.reduceEqDiff, Nat.reduceAdd, Nat.reduceLT, Nat.reduceMul]
      rfl
    · try simp only [↓Da, Ua, c_law02_PageInjective, B_api_Cell, B_ar_eareapiCell16, B_api_Page, B_pagemenddraw_Codes, *, ↓reduceIte, Nat.reduceEqDiff, Nat.reduceAdd, Nat.reduceLT, Nat.reduceMul]
      rcases ite_inv h with ⟨h36, h⟩ | ⟨h36, h⟩
      · obtain rfl := sj h
        try simp only [↓Da, Ua, c_law02_PageInjective, B_api_Cell, B_ar_eareapiCell16, B_api_Page, B_pagemenddraw_Codes, z_law02_PageInjective, *, ↓reduceIte, Nat.reduceEqDiff, Nat.reduceAdd, Nat.reduceLT, Nat.reduceMul]
        rfl
      · obtain ⟨r37, h38, h⟩ := bi h
        have f39 := q_ref02_Valid p h38
        try simp only [Nf] at f39
        try simp only [↓Da, Ua, c_law02_PageInjective, B_api_Cell, B_ar_eareapiCell16, B_api_Page, B_pagemenddraw_Codes, *, ↓reduceIte, Nat.reduceEqDiff, Nat.reduceAdd, Nat.reduceLT, Nat.reduceMul]
        rcases ite_inv h with ⟨h40, h⟩ | ⟨h40, h⟩
        · try simp only [↓Da, Ua, c_law02_PageInjective, B_api_Cell, B_ar_eareapiCell16, B_api_Page, B_pagemenddraw_Codes, cmp_api_Page, *, ↓reduceIte, Nat.reduceEqDiff, Nat.reduceAdd, Nat.reduceLT, Nat.reduceMul]
          rcases ite_inv h with ⟨h42, h⟩ | ⟨h42, h⟩
          · try try rw [h4] at h42
            try simp only [↓Da, Ua, c_law02_PageInjective, B_api_Cell, B_ar_eareapiCell16, B_api_Page, B_pagemenddraw_Codes, cmp_api_Page, *, ↓reduceIte, Nat.reduceEqDiff, Nat.reduceAdd, Nat.reduceLT, Nat.reduceMul]
            rcases ite_inv h with ⟨h43, h⟩ | ⟨h43, h⟩
            · obtain rfl := sj h
              try simp only [↓Da, Ua, c_law02_PageInjective, B_api_Cell, B_ar_eareapiCell16, B_api_Page, B_pagemenddraw_Codes, cmp_api_Page, z_law02_PageInjective, *, ↓reduceIte, Nat.reduceEqDiff, Nat.reduceAdd, Nat.reduceLT, Nat.reduceMul]
              rfl
            · obtain rfl := sj h
              try simp only [↓Da, Ua, c_law02_PageInjective, B_api_Cell, B_ar_eareapiCell16, B_api_Page, B_pagemenddraw_Codes, cmp_api_Page, z_law02_PageInjective, *, ↓reduceIte, Nat.reduceEqDiff, Nat.reduceAdd, Nat.reduceLT, Nat.reduceMul]
              rfl
          · try try rw [h4] at h42
            obtain rfl := sj h
            try simp only [↓Da, Ua, c_law02_PageInjective, B_api_Cell, B_ar_eareapiCell16, B_api_Page, B_pagemenddraw_Codes, cmp_api_Page, z_law02_PageInjective, *, ↓reduceIte, Nat.reduceEqDiff, Nat.reduceAdd, Nat.reduceLT, Nat.reduceMul]
            rfl
        · obtain rfl := sj h
          try simp only [↓Da, Ua, c_law02_PageInjective, B_api_Cell, B_ar_eareapiCell16, B_api_Page, B_pagemenddraw_Codes, z_law02_PageInjective, *, ↓reduceIte, Nat.reduceEqDiff, Nat.reduceAdd, Nat.reduceLT, Nat.reduceMul]
          rfl
  · obtain rfl := sj h
    try simp only [↓Da, Ua, c_law02_PageInjective, B_api_Cell, B_ar_eareapiCell16, B_api_Page, B_pagemenddraw_Codes, z_law02_PageInjective, *, ↓reduceIte, Nat.reduceEqDiff, Nat.reduceAdd, Nat.reduceLT, Nat.reduceMul]
    rfl


theorem e_law02_PageInjective {x0 : List Int} {x1 : List Int} {o : Bool} (h : S_law02_PageInjective x0 x1 = some o) : AF (tabOf p) i_law02_PageInjective [.p (.sl 1 (List.map (r_i .u8) x0)), .p (.sl 1 (List.map (r_i .u8) x1))] [] = d_law02_PageInjective o :=
  (AF_rk (tabOf p) (t_law02_PageInjective p) rfl).trans (e_law02_PageInjective_top p h)

theorem q_law02_PageInjective {x0 : List Int} {x1 : List Int} {o : Bool} (h : S_law02_PageInjective x0 x1 = some o) : ∀ ws new st, (callR2 (AF (tabOf p)) i_law02_PageInjective ([.p (.sl 1 (List.map (r_i .u8) x0)), .p (.sl 1 (List.map (r_i .u8) x1))], ws) 0 new).run st = some ⟨.p (.b o), ws⟩ := callR2_plain rfl (e_law02_PageInjective p h) rfl

/-! pagemend/pagemendlaw02.PageEncodes -/

def d_law02_PageEncodes  (r : Bool) : Option Res := some (.p (.b r), [])

def d_law02_PageEncodes_0 (x2 : Int) (x31 : List T_api_Page) (x32 : Int) (B0 : List PV) (B1 : List PV) (B2 : List PV) (o : (Int) ⊕ (Bool)) : Option Res := match o with
  | .inl s => rk (tabOf p) f_law02_PageEncodes 0 [.bl 0, .td 3 [2, 6], .sq (.keep [2] c_law02_PageEncodes_1)] (X (tabOf p) (.lp 3 [2, 31, 32, 33] c_law02_PageEncodes_0) ⟨[(2, .p (.i .i64 x2)), (31, .p (.sl 34 (List.map e_api_Page x31))), (32, .p (.i .i64 x32)), (33, .p (.i .i64 s))], [.box (List.map AV.p B0), .box (List.map AV.p B1), .box (List.map AV.p B2)]⟩)
  | .inr o => d_law02_PageEncodes o

def S_law02_PageEncodes_1 (x2 : Int) : Option (Bool) :=
  Option.bind (S_page_New x2) fun r1 =>
  Option.bind (S_ref02_New x2) fun r4 =>
  if (r1 == r4) then
    Option.bind (S_page_Blank) fun r9 =>
    Option.bind (S_ref02_Blank) fun r12 =>
    some (r9 == r12)
  else
    some false

theorem e_law02_PageEncodes_1 {x2 : Int} {B0 : List PV} {B1 : List PV} {B2 : List PV} {o : Bool} (h : S_law02_PageEncodes_1 x2 = some o) :
    rk (tabOf p) f_law02_PageEncodes 0 [] (X (tabOf p) c_law02_PageEncodes_1 ⟨[(2, .p (.i .i64 x2))], [.box (List.map AV.p B0), .box (List.map AV.p B1), .box (List.map AV.p B2)]⟩) = d_law02_PageEncodes o := by
  unfold S_law02_PageEncodes_1 at h
  obtain ⟨r1, h2, h⟩ := bi h
  have f3 := q_page_New p h2
  try simp only [Nf] at f3
  obtain ⟨r4, h5, h⟩ := bi h
  have f6 := q_ref02_New p h5
  try simp only [Nf] at f6
  try simp only [↓Da, Ua, c_law02_PageEncodes_1, B_api_Cell, B_ar_eareapiCell16, B_api_Page, cmp_api_Page, *, ↓reduceIte, Nat.reduceEqDiff, Nat.reduceAdd, Nat.reduceLT, Nat.reduceMul]
  rcases ite_inv h with ⟨h8, h⟩ | ⟨h8, h⟩
  · obtain ⟨r9, h10, h⟩ := bi h
    have f11 := q_page_Blank p h10
    try simp only [Nf] at f11
    obtain ⟨r12, h13, h⟩ := bi h
    have f14 := q_ref02_Blank p h13
    try simp only [Nf] at f14
    obtain rfl := sj h
    try simp only [↓Da, Ua, c_law02_PageEncodes_1, B_api_Cell, B_ar_eareapiCell16, B_api_Page, cmp_api_Page, z_law02_PageEncodes, *, ↓reduceIte, Nat.reduceEqDiff, Nat.reduceAdd, Nat.reduceLT, Nat.reduceMul]
    rfl
  · obtain rfl := sj h
    try simp only [↓Da, Ua, c_law02_PageEncodes_1, B_api_Cell, B_ar_eareapiCell16, B_api_Page, cmp_api_Page, z_law02_PageEncodes, *, ↓reduceIte, Nat.reduceEqDiff, Nat.reduceAdd, Nat.reduceLT, Nat.reduceMul]
    rfl


def S_law02_PageEncodes_0 (x2 : Int) (x31 : List T_api_Page) (x32 : Int) (x33 : Int) : Option (((Int) ⊕ (Bool))) :=
  if (decide (x33 < x32)) then
    Option.bind (idx x31 x33) fun y2 =>
    Option.bind (S_page_Encode y2) fun r5 =>
    Option.bind (S_ref02_Encode y2) fun r8 =>
    if (r5.1 == r8.1) then
      if ((r5.2 : Int) != r8.2) then
        some (.inr false)
      else
        Option.bind (S_page_Valid y2) fun r13 =>
        Option.bind (S_ref02_Valid y2) fun r17 =>
        if (r13 == r17) then
          some (.inl (IntKind.wrap .i64 (x33 + 1)))
        else
          some (.inr false)
    else
      some (.inr false)
  else
    Option.map (fun o => .inr o) (S_law02_PageEncodes_1 x2)

theorem e_law02_PageEncodes_0 {x2 : Int} {x31 : List T_api_Page} {x32 : Int} {x33 : Int} {B0 : List PV} {B1 : List PV} {B2 : List PV} {o : ((Int) ⊕ (Bool))} (h : S_law02_PageEncodes_0 x2 x31 x32 x33 = some o) :
    rk (tabOf p) f_law02_PageEncodes 0 [.lo 3 [2, 31, 32, 33] c_law02_PageEncodes_0, .bl 0, .td 3 [2, 6], .sq (.keep [2] c_law02_PageEncodes_1)] (X (tabOf p) c_law02_PageEncodes_0 ⟨[(2, .p (.i .i64 x2)), (31, .p (.sl 34 (List.map e_api_Page x31))), (32, .p (.i .i64 x32)), (33, .p (.i .i64 x33))], [.box (List.map AV.p B0), .box (List.map AV.p B1), .box (List.map AV.p B2)]⟩) = (d_law02_PageEncodes_0 p x2 x31 x32 B0 B1 B2) o := by
  unfold S_law02_PageEncodes_0 at h
  rcases ite_inv h with ⟨h1, h⟩ | ⟨h1, h⟩
  · obtain ⟨y2, h3, h⟩ := bi h
    have f4 := rowAt_idx (r := e_api_Page) h3
    try simp only [Nf] at f4
    obtain ⟨r5, h6, h⟩ := bi h
    have f7 := q_page_Encode p h6
    try simp only [Nf] at f7
    obtain ⟨r8, h9, h⟩ := bi h
    have f10 := q_ref02_Encode p h9
    try simp only [Nf] at f10
    try simp only [↓Da, Ua, Ra, c_law02_PageEncodes_0, B_api_Cell, B_ar_eareapiCell16, B_api_Page, *, ↓reduceIte, Nat.reduceEqDiff, Nat.reduceAdd, Nat.reduceLT, Nat.reduceMul, Nat.reduceBEq]
    rcases ite_inv h with ⟨h11, h⟩ | ⟨h11, h⟩
    · try simp only [↓Da, Ua, Ra, c_law02_PageEncodes_0, B_api_Cell, B_ar_eareapiCell16, B_api_Page, *, ↓reduceIte, Nat.reduceEqDiff, Nat.reduceAdd, Nat.reduceLT, Nat.reduceMul, Nat.reduceBEq]
      rcases ite_inv h with ⟨h12, h⟩ | ⟨h12, h⟩
      · obtain rfl := sj h
        try simp only [↓Da, Ua, Ra, c_law02_PageEncodes_0, B_api_Cell, B_ar_eareapiCell16, B_api_Page, z_law02_PageEncodes, *, ↓reduceIte, Nat.reduceEqDiff, Nat.reduceAdd, Nat.reduceLT, Nat.reduceMul, Nat.reduceBEq]
        rfl
      · obtain ⟨r13, h14, h⟩ := bi h
        have f15 := q_page_Valid p h14
        try simp only [Nf] at f15
        have f16 : ∀ ws k new s, blksOf ((callR2 (AF (tabOf p)) i_page_Valid ([.data (e_api_Page y2)], ws) k new).reads s) = [] := callR2_reads_plain rfl
        try simp only [Nf] at f16
        obtain ⟨r17, h18, h⟩ := bi h
        have f19 := q_ref02_Valid p h18
        try simp only [Nf] at f19
        have f20 : ∀ ws k new s, blksOf ((callR2 (AF (tabOf p)) i_ref02_Valid ([.data (e_api_Page y2)], ws) k new).reads s) = [] := callR2_reads_plain rfl
        try simp only [Nf] at f20
        try simp only [↓Da, Ua, Ra, c_law02_PageEncodes_0, B_api_Cell, B_ar_eareapiCell16, B_api_Page, *, ↓reduceIte, Nat.reduceEqDiff, Nat.reduceAdd, Nat.reduceLT, Nat.reduceMul, Nat.reduceBEq]
        rcases ite_inv h with ⟨h21, h⟩ | ⟨h21, h⟩
        · obtain rfl := sj h
          try simp only [↓Da, Ua, Ra, c_law02_PageEncodes_0, B_api_Cell, B_ar_eareapiCell16, B_api_Page, *, ↓reduceIte, Nat.reduceEqDiff, Nat.reduceAdd, Nat.reduceLT, Nat.reduceMul, Nat.reduceBEq]
          rfl
        · obtain rfl := sj h
          try simp only [↓Da, Ua, Ra, c_law02_PageEncodes_0, B_api_Cell, B_ar_eareapiCell16, B_api_Page, z_law02_PageEncodes, *, ↓reduceIte, Nat.reduceEqDiff, Nat.reduceAdd, Nat.reduceLT, Nat.reduceMul, Nat.reduceBEq]
          rfl
    · obtain rfl := sj h
      try simp only [↓Da, Ua, Ra, c_law02_PageEncodes_0, B_api_Cell, B_ar_eareapiCell16, B_api_Page, z_law02_PageEncodes, *, ↓reduceIte, Nat.reduceEqDiff, Nat.reduceAdd, Nat.reduceLT, Nat.reduceMul, Nat.reduceBEq]
      rfl
  · obtain ⟨o', h', rfl⟩ := mi h
    try simp only [↓Da, Ua, Ra, c_law02_PageEncodes_0, B_api_Cell, B_ar_eareapiCell16, B_api_Page, *, ↓reduceIte, Nat.reduceEqDiff, Nat.reduceAdd, Nat.reduceLT, Nat.reduceMul, Nat.reduceBEq]
    have e0 := e_law02_PageEncodes_1 p (B0 := B0) (B1 := B1) (B2 := B2) h'
    exact e0


def W_law02_PageEncodes_0 (x2 : Int) (x31 : List T_api_Page) (x32 : Int) (s : Int) : Option (Bool) :=
  whileO (fun s => S_law02_PageEncodes_0 x2 x31 x32 s) s

theorem e_law02_PageEncodes_0_w {x2 : Int} {x31 : List T_api_Page} {x32 : Int} {B0 : List PV} {B1 : List PV} {B2 : List PV} {s : Int} {o : Bool} (h : W_law02_PageEncodes_0 x2 x31 x32 s = some o) :
    rk (tabOf p) f_law02_PageEncodes 0 [.bl 0, .td 3 [2, 6], .sq (.keep [2] c_law02_PageEncodes_1)] (X (tabOf p) (.lp 3 [2, 31, 32, 33] c_law02_PageEncodes_0) ⟨[(2, .p (.i .i64 x2)), (31, .p (.sl 34 (List.map e_api_Page x31))), (32, .p (.i .i64 x32)), (33, .p (.i .i64 s))], [.box (List.map AV.p B0), .box (List.map AV.p B1), .box (List.map AV.p B2)]⟩) = d_law02_PageEncodes o := by
  have h0 : whileO (fun s => S_law02_PageEncodes_0 x2 x31 x32 s) s = some o := h
  exact while_ind (P := fun (s : Int) (o : Bool) => rk (tabOf p) f_law02_PageEncodes 0 [.bl 0, .td 3 [2, 6], .sq (.keep [2] c_law02_PageEncodes_1)] (X (tabOf p) (.lp 3 [2, 31, 32, 33] c_law02_PageEncodes_0) ⟨[(2, .p (.i .i64 x2)), (31, .p (.sl 34 (List.map e_api_Page x31))), (32, .p (.i .i64 x32)), (33, .p (.i .i64 s))], [.box (List.map AV.p B0), .box (List.map AV.p B1), .box (List.map AV.p B2)]⟩) = d_law02_PageEncodes o) (fun s r hs => by rw [rk_lp]; exact e_law02_PageEncodes_0 p hs) (fun s s1 r hs ih => by rw [rk_lp]; exact (e_law02_PageEncodes_0 p hs).trans ih) h0

def S_law02_PageEncodes (x0 : List Int) (x1 : T_api_Page) (x2 : Int) : Option (Bool) :=
  Option.bind (S_law02_awake) fun r1 =>
  if r1 then
    Option.bind (S_draw_New x0 100) fun r5 =>
    Option.bind (S_draw_Codes_Next r5 64) fun r8 =>
    Option.bind (S_draw_Codes_Page r8.2 r8.1) fun r11 =>
    Option.bind (S_draw_Codes_OddPage r11.2 r11.1) fun r14 =>
    Option.bind (S_draw_Codes_OddPage r14.2 r11.1) fun r18 =>
    W_law02_PageEncodes_0 x2 ([x1, r11.1, r14.1, r18.1] : List T_api_Page) ((List.length ([x1, r11.1, r14.1, r18.1] : List T_api_Page) : Nat) : Int) 0
  else
    some false

theorem e_law02_PageEncodes_top {x0 : List Int} {x1 : T_api_Page} {x2 : Int} {o : Bool} (h : S_law02_PageEncodes x0 x1 x2 = some o) :
    rk (tabOf p) f_law02_PageEncodes 0 [] (X (tabOf p) c_law02_PageEncodes ⟨[(0, .p (.sl 1 (List.map (r_i .u8) x0))), (1, .data (e_api_Page x1)), (2, .p (.i .i64 x2))], []⟩) = d_law02_PageEncodes o := by
  unfold S_law02_PageEncodes at h
  obtain ⟨r1, h2, h⟩ := bi h
  have f3 := q_law02_awake p h2
  try simp only [Nf] at f3
  try simp only [↓Da, Ua, Ra, c_law02_PageEncodes, B_api_Cell, B_ar_eareapiCell16, B_api_Page, B_pagemenddraw_Codes, *, ↓reduceIte, Nat.reduceEqDiff, Nat.reduceAdd, Nat.reduceLT, Nat.reduceMul, Nat.reduceBEq]
  rcases ite_inv h with ⟨h4, h⟩ | ⟨h4, h⟩
  · obtain ⟨r5, h6, h⟩ := bi h
    have f7 : ∀ ws new s, (callR2 (AF (tabOf p)) i_draw_New ([.p (.sl 1 (List.map (r_i .u8) x0)), .p (.i .i64 100)], ws) 1 new).run s = some ⟨.ptr new 0, ws ++ [(new, .box (List.map AV.p (e_pagemenddraw_Codes r5)))]⟩ := callR2_new rfl (e_draw_New p h6) (all_plain_mapp _)
    try simp only [Nf] at f7
    obtain ⟨r8, h9, h⟩ := bi h
    have f10 : ∀ ws new s, boxesAt ws s [1] [List.map AV.p (e_pagemenddraw_Codes r5)] → (callR2 (AF (tabOf p)) i_draw_Codes_Next ([.ptr 1 0, .p (.i .i64 64)], ws) 0 new).run s = some ⟨.p (.i .i64 r8.1), ws ++ [(1, .box (List.map AV.p (e_pagemenddraw_Codes r8.2)))]⟩ := callR2_ptrs (args' := [.ptr 0 0, .p (.i .i64 64)]) (bs := [1]) (css := [List.map AV.p (e_pagemenddraw_Codes r5)]) (css' := [List.map AV.p (e_pagemenddraw_Codes r8.2)]) rfl rfl rfl (by simp [allPlain, all_plain_mapp]) (e_draw_Codes_Next p h9) rfl rfl (by simp [allPlain, all_plain_mapp])
    try simp only [Nf] at f10
    obtain ⟨r11, h12, h⟩ := bi h
    have f13 : ∀ ws new s, boxesAt ws s [1] [List.map AV.p (e_pagemenddraw_Codes r8.2)] → (callR2 (AF (tabOf p)) i_draw_Codes_Page ([.ptr 1 0, .p (.i .i64 r8.1)], ws) 0 new).run s = some ⟨.data (e_api_Page r11.1), ws ++ [(1, .box (List.map AV.p (e_pagemenddraw_Codes r11.2)))]⟩ := callR2_ptrs (args' := [.ptr 0 0, .p (.i .i64 r8.1)]) (bs := [1]) (css := [List.map AV.p (e_pagemenddraw_Codes r8.2)]) (css' := [List.map AV.p (e_pagemenddraw_Codes r11.2)]) rfl rfl rfl (by simp [allPlain, all_plain_mapp]) (e_draw_Codes_Page p h12) rfl rfl (by simp [allPlain, all_plain_mapp])
    try simp only [Nf] at f13
    obtain ⟨r14, h15, h⟩ := bi h
    have f16 : ∀ ws new s, boxesAt ws s [1] [List.map AV.p (e_pagemenddraw_Codes r11.2)] → (callR2 (AF (tabOf p)) i_draw_Codes_OddPage ([.ptr 1 0, .data (e_api_Page r11.1)], ws) 0 new).run s = some ⟨.data (e_api_Page r14.1), ws ++ [(1, .box (List.map AV.p (e_pagemenddraw_Codes r14.2)))]⟩ := callR2_ptrs (args' := [.ptr 0 0, .data (e_api_Page r11.1)]) (bs := [1]) (css := [List.map AV.p (e_pagemenddraw_Codes r11.2)]) (css' := [List.map AV.p (e_pagemenddraw_Codes r14.2)]) rfl rfl rfl (by simp [allPlain, all_plain_mapp]) (e_draw_Codes_OddPage p h15) rfl rfl (by simp [allPlain, all_plain_mapp])
    try simp only [Nf] at f16
    have f17 : ∀ ws k new s, (getB ws 1).run s = some (.box (List.map AV.p (e_pagemenddraw_Codes r11.2))) → blksOf ((callR2 (AF (tabOf p)) i_draw_Codes_OddPage ([.ptr 1 0, .data (e_api_Page r11.1)], ws) k new).reads s) = [1, 1, 1] := callR2_reads_ptr (args := [.data (e_api_Page r11.1)]) rfl (all_plain_mapp _)
    try simp only [Nf] at f17
    obtain ⟨r18, h19, h⟩ := bi h
    have f20 : ∀ ws new s, boxesAt ws s [1] [List.map AV.p (e_pagemenddraw_Codes r14.2)] → (callR2 (AF (tabOf p)) i_draw_Codes_OddPage ([.ptr 1 0, .data (e_api_Page r11.1)], ws) 0 new).run s = some ⟨.data (e_api_Page r18.1), ws ++ [(1, .box (List.map AV.p (e_pagemenddraw_Codes r18.2)))]⟩ := callR2_ptrs (args' := [.ptr 0 0, .data (e_api_Page r11.1)]) (bs := [1]) (css := [List.map AV.p (e_pagemenddraw_Codes r14.2)]) (css' := [List.map AV.p (e_pagemenddraw_Codes r18.2)]) rfl rfl rfl (by simp [allPlain, all_plain_mapp]) (e_draw_Codes_OddPage p h19) rfl rfl (by simp [allPlain, all_plain_mapp])
    try simp only [Nf] at f20
    have f21 : ∀ ws k new s, (getB ws 1).run s = some (.box (List.map AV.p (e_pagemenddraw_Codes r14.2))) → blksOf ((callR2 (AF (tabOf p)) i_draw_Codes_OddPage ([.ptr 1 0, .data (e_api_Page r11.1)], ws) k new).reads s) = [1, 1, 1] := callR2_reads_ptr (args := [.data (e_api_Page r11.1)]) rfl (all_plain_mapp _)
    try simp only [Nf] at f21
    try simp only [↓Da, Ua, Ra, c_law02_PageEncodes, B_api_Cell, B_ar_eareapiCell16, B_api_Page, B_pagemenddraw_Codes, *, ↓reduceIte, Nat.reduceEqDiff, Nat.reduceAdd, Nat.reduceLT, Nat.reduceMul, Nat.reduceBEq]
    have e0 := e_law02_PageEncodes_0_w p (B0 := (e_api_Page x1)) (B1 := (e_pagemenddraw_Codes r18.2)) (B2 := (e_api_Page r11.1)) h
    exact e0
  · obtain rfl := sj h
    try simp only [↓Da, Ua, Ra, c_law02_PageEncodes, B_api_Cell, B_ar_eareapiCell16, B_api_Page, B_pagemenddraw_Codes, z_law02_PageEncodes, *, ↓reduceIte, Nat.reduceEqDiff, Nat.reduceAdd, Nat.reduceLT, Nat.reduceMul, Nat.reduceBEq]
    rfl


theorem e_law02_PageEncodes {x0 : List Int} {x1 : T_api_Page} {x2 : Int} {o : Bool} (h : S_law02_PageEncodes x0 x1 x2 = some o) : AF (tabOf p) i_law02_PageEncodes [.p (.sl 1 (List.map (r_i .u8) x0)), .data (e_api_Page x1), .p (.i .i64 x2)] [] = d_law02_PageEncodes o :=
  (AF_rk (tabOf p) (t_law02_PageEncodes p) rfl).trans (e_law02_PageEncodes_top p h)

theorem q_law02_PageEncodes {x0 : List Int} {x1 : T_api_Page} {x2 : Int} {o : Bool} (h : S_law02_PageEncodes x0 x1 x2 = some o) : ∀ ws new st, (callR2 (AF (tabOf p)) i_law02_PageEncodes ([.p (.sl 1 (List.map (r_i .u8) x0)), .data (e_api_Page x1), .p (.i .i64 x2)], ws) 0 new).run st = some ⟨.p (.b o), ws⟩ := callR2_plain rfl (e_law02_PageEncodes p h) rfl

/-! pagemend/pagemendlaw02.PageForms -/

def d_law02_PageForms  (r : Bool) : Option Res := some (.p (.b r), [])

def d_law02_PageForms_0 (x4 : List UInt8) (o : (Int × T_pagemenddraw_Codes) ⊕ (Bool)) : Option Res := match o with
  | .inl s => rk (tabOf p) f_law02_PageForms 0 [.bl 0, .td 1 [2], .sq (.keep [] c_law02_PageForms_1)] (X (tabOf p) (.lp 1 [3, 4, 6] c_law02_PageForms_0) ⟨[(3, .ptr 0 0), (4, .p (.s x4)), (6, .p (.i .i64 s.1))], [.box (List.map AV.p (e_pagemenddraw_Codes s.2))]⟩)
  | .inr o => d_law02_PageForms o

def S_law02_PageForms_1  : Option (Bool) :=
  some true

theorem e_law02_PageForms_1 {B0 : List PV} {o : Bool} (h : S_law02_PageForms_1 = some o) :
    rk (tabOf p) f_law02_PageForms 0 [] (X (tabOf p) c_law02_PageForms_1 ⟨[], [.box (List.map AV.p B0)]⟩) = d_law02_PageForms o := by
  unfold S_law02_PageForms_1 at h
  obtain rfl := sj h
  try simp only [↓Da, Ua, c_law02_PageForms_1, z_law02_PageForms, ↓reduceIte, Nat.reduceEqDiff, Nat.reduceAdd, Nat.reduceLT, Nat.reduceMul]
  rfl


def S_law02_PageForms_0 (x4 : List UInt8) (x6 : Int) (b0 : T_pagemenddraw_Codes) : Option (((Int × T_pagemenddraw_Codes) ⊕ (Bool))) :=
  if (decide (x6 < 4)) then
    Option.bind (S_law02_sealed b0 x4) fun r2 =>
    Option.bind (S_page_Decode r2.1) fun r5 =>
    Option.bind (S_ref02_Decode r2.1) fun r8 =>
    if (r5.1 == r8.1) then
      if ((r5.2 : Int) != r8.2) then
        some (.inr false)
      else
        Option.bind (S_page_Encode r5.1) fun r14 =>
        if ((r5.2 : Int) == 0) then
          if ((r14.2 : Int) != 0) then
            some (.inr false)
          else
            if (r14.1 == r2.1) then
              some (.inl ((IntKind.wrap .i64 (x6 + 1)), r2.2))
            else
              some (.inr false)
        else
          some (.inl ((IntKind.wrap .i64 (x6 + 1)), r2.2))
    else
      some (.inr false)
  else
    Option.map (fun o => .inr o) (S_law02_PageForms_1)

theorem e_law02_PageForms_0 {x4 : List UInt8} {x6 : Int} {b0 : T_pagemenddraw_Codes} {o : ((Int × T_pagemenddraw_Codes) ⊕ (Bool))} (h : S_law02_PageForms_0 x4 x6 b0 = some o) :
    rk (tabOf p) f_law02_PageForms 0 [.lo 1 [3, 4, 6] c_law02_PageForms_0, .bl 0, .td 1 [2], .sq (.keep [] c_law02_PageForms_1)] (X (tabOf p) c_law02_PageForms_0 ⟨[(3, .ptr 0 0), (4, .p (.s x4)), (6, .p (.i .i64 x6))], [.box (List.map AV.p (e_pagemenddraw_Codes b0))]⟩) = (d_law02_PageForms_0 p x4) o := by
  unfold S_law02_PageForms_0 at h
  rcases ite_inv h with ⟨h1, h⟩ | ⟨h1, h⟩
  · obtain ⟨r2, h3, h⟩ := bi h
    have f4 : ∀ ws new s, boxesAt ws s [0] [List.map AV.p (e_pagemenddraw_Codes b0)] → (callR2 (AF (tabOf p)) i_law02_sealed ([.ptr 0 0, .p (.s x4)], ws) 0 new).run s = some ⟨.p (.s r2.1), ws ++ [(0, .box (List.map AV.p (e_pagemenddraw_Codes r2.2)))]⟩ := callR2_ptrs (args' := [.ptr 0 0, .p (.s x4)]) (bs := [0]) (css := [List.map AV.p (e_pagemenddraw_Codes b0)]) (css' := [List.map AV.p (e_pagemenddraw_Codes r2.2)]) rfl rfl rfl (by simp [allPlain, all_plain_mapp]) (e_law02_sealed p h3) rfl rfl (by simp [allPlain, all_plain_mapp])
    try simp only [Nf] at f4
    obtain ⟨r5, h6, h⟩ := bi h
    have f7 := q_page_Decode p h6
    try simp only [Nf] at f7
    obtain ⟨r8, h9, h⟩ := bi h
    have f10 := q_ref02_Decode p h9
    try simp only [Nf] at f10
    try simp only [↓Da, Ua, c_law02_PageForms_0, B_api_Cell, B_ar_eareapiCell16, B_api_Page, B_pagemenddraw_Codes, cmp_api_Page, *, ↓reduceIte, Nat.reduceEqDiff, Nat.reduceAdd, Nat.reduceLT, Nat.reduceMul]
    rcases ite_inv h with ⟨h12, h⟩ | ⟨h12, h⟩
    · try simp only [↓Da, Ua, c_law02_PageForms_0, B_api_Cell, B_ar_eareapiCell16, B_api_Page, B_pagemenddraw_Codes, cmp_api_Page, *, ↓reduceIte, Nat.reduceEqDiff, Nat.reduceAdd, Nat.reduceLT, Nat.reduceMul]
      rcases ite_inv h with ⟨h13, h⟩ | ⟨h13, h⟩
      · obtain rfl := sj h
        try simp only [↓Da, Ua, c_law02_PageForms_0, B_api_Cell, B_ar_eareapiCell16, B_api_Page, B_pagemenddraw_Codes, cmp_api_Page, z_law02_PageForms, *, ↓reduceIte, Nat.reduceEqDiff, Nat.reduceAdd, Nat.reduceLT, Nat.reduceMul]
        rfl
      · obtain ⟨r14, h15, h⟩ := bi h
        have f16 := q_page_Encode p h15
        try simp only [Nf] at f16
        try simp only [↓Da, Ua, c_law02_PageForms_0, B_api_Cell, B_ar_eareapiCell16, B_api_Page, B_pagemenddraw_Codes, cmp_api_Page, *, ↓reduceIte, Nat.reduceEqDiff, Nat.reduceAdd, Nat.reduceLT, Nat.reduceMul]
        rcases ite_inv h with ⟨h17, h⟩ | ⟨h17, h⟩
        · try simp only [↓Da, Ua, c_law02_PageForms_0, B_api_Cell, B_ar_eareapiCell16, B_api_Page, B_pagemenddraw_Codes, cmp_api_Page, *, ↓reduceIte, Nat.reduceEqDiff, Nat.reduceAdd, Nat.reduceLT, Nat.reduceMul]
          rcases ite_inv h with ⟨h18, h⟩ | ⟨h18, h⟩
          · obtain rfl := sj h
            try simp only [↓Da, Ua, c_law02_PageForms_0, B_api_Cell, B_ar_eareapiCell16, B_api_Page, B_pagemenddraw_Codes, cmp_api_Page, z_law02_PageForms, *, ↓reduceIte, Nat.reduceEqDiff, Nat.reduceAdd, Nat.reduceLT, Nat.reduceMul]
            rfl
          · try simp only [↓Da, Ua, c_law02_PageForms_0, B_api_Cell, B_ar_eareapiCell16, B_api_Page, B_pagemenddraw_Codes, cmp_api_Page, *, ↓reduceIte, Nat.reduceEqDiff, Nat.reduceAdd, Nat.reduceLT, Nat.reduceMul]
            rcases ite_inv h with ⟨h19, h⟩ | ⟨h19, h⟩
            · obtain rfl := sj h
              try simp only [↓Da, Ua, c_law02_PageForms_0, B_api_Cell, B_ar_eareapiCell16, B_api_Page, B_pagemenddraw_Codes, cmp_api_Page, *, ↓reduceIte, Nat.reduceEqDiff, Nat.reduceAdd, Nat.reduceLT, Nat.reduceMul]
              rfl
            · obtain rfl := sj h
              try simp only [↓Da, Ua, c_law02_PageForms_0, B_api_Cell, B_ar_eareapiCell16, B_api_Page, B_pagemenddraw_Codes, cmp_api_Page, z_law02_PageForms, *, ↓reduceIte, Nat.reduceEqDiff, Nat.reduceAdd, Nat.reduceLT, Nat.reduceMul]
              rfl
        · obtain rfl := sj h
          try simp only [↓Da, Ua, c_law02_PageForms_0, B_api_Cell, B_ar_eareapiCell16, B_api_Page, B_pagemenddraw_Codes, cmp_api_Page, *, ↓reduceIte, Nat.reduceEqDiff, Nat.reduceAdd, Nat.reduceLT, Nat.reduceMul]
          rfl
    · obtain rfl := sj h
      try simp only [↓Da, Ua, c_law02_PageForms_0, B_api_Cell, B_ar_eareapiCell16, B_api_Page, B_pagemenddraw_Codes, cmp_api_Page, z_law02_PageForms, *, ↓reduceIte, Nat.reduceEqDiff, Nat.reduceAdd, Nat.reduceLT, Nat.reduceMul]
      rfl
  · obtain ⟨o', h', rfl⟩ := mi h
    try simp only [↓Da, Ua, c_law02_PageForms_0, B_api_Cell, B_ar_eareapiCell16, B_api_Page, B_pagemenddraw_Codes, *, ↓reduceIte, Nat.reduceEqDiff, Nat.reduceAdd, Nat.reduceLT, Nat.reduceMul]
    have e0 := e_law02_PageForms_1 p (B0 := (e_pagemenddraw_Codes b0)) h'
    exact e0


def W_law02_PageForms_0 (x4 : List UInt8) (s : Int × T_pagemenddraw_Codes) : Option (Bool) :=
  whileO (fun s => S_law02_PageForms_0 x4 s.1 s.2) s

theorem e_law02_PageForms_0_w {x4 : List UInt8} {s : Int × T_pagemenddraw_Codes} {o : Bool} (h : W_law02_PageForms_0 x4 s = some o) :
    rk (tabOf p) f_law02_PageForms 0 [.bl 0, .td 1 [2], .sq (.keep [] c_law02_PageForms_1)] (X (tabOf p) (.lp 1 [3, 4, 6] c_law02_PageForms_0) ⟨[(3, .ptr 0 0), (4, .p (.s x4)), (6, .p (.i .i64 s.1))], [.box (List.map AV.p (e_pagemenddraw_Codes s.2))]⟩) = d_law02_PageForms o := by
  have h0 : whileO (fun s => S_law02_PageForms_0 x4 s.1 s.2) s = some o := h
  exact while_ind (P := fun (s : Int × T_pagemenddraw_Codes) (o : Bool) => rk (tabOf p) f_law02_PageForms 0 [.bl 0, .td 1 [2], .sq (.keep [] c_law02_PageForms_1)] (X (tabOf p) (.lp 1 [3, 4, 6] c_law02_PageForms_0) ⟨[(3, .ptr 0 0), (4, .p (.s x4)), (6, .p (.i .i64 s.1))], [.box (List.map AV.p (e_pagemenddraw_Codes s.2))]⟩) = d_law02_PageForms o) (fun s r hs => by rw [rk_lp]; exact e_law02_PageForms_0 p hs) (fun s s1 r hs ih => by rw [rk_lp]; exact (e_law02_PageForms_0 p hs).trans ih) h0

def S_law02_PageForms (x0 : List Int) : Option (Bool) :=
  Option.bind (S_law02_awake) fun r1 =>
  if r1 then
    Option.bind (S_draw_New x0 160) fun r5 =>
    Option.bind (S_draw_Codes_Next r5 5) fun r8 =>
    Option.bind (S_draw_Codes_Page r8.2 r8.1) fun r11 =>
    Option.bind (S_ref02_Encode r11.1) fun r14 =>
    W_law02_PageForms_0 r14.1 (0, r11.2)
  else
    some false

theorem e_law02_PageForms_top {x0 : List Int} {o : Bool} (h : S_law02_PageForms x0 = some o) :
    rk (tabOf p) f_law02_PageForms 0 [] (X (tabOf p) c_law02_PageForms ⟨[(0, .p (.sl 1 (List.map (r_i .u8) x0)))], []⟩) = d_law02_PageForms o := by
  unfold S_law02_PageForms at h
  obtain ⟨r1, h2, h⟩ := bi h
  have f3 := q_law02_awake p h2
  try simp only [Nf] at f3
  try simp only [↓Da, Ua, c_law02_PageForms, B_api_Cell, B_ar_eareapiCell16, B_api_Page, B_pagemenddraw_Codes, *, ↓reduceIte, Nat.reduceEqDiff, Nat.reduceAdd, Nat.reduceLT, Nat.reduceMul]
  rcases ite_inv h with ⟨h4, h⟩ | ⟨h4, h⟩
  · obtain ⟨r5, h6, h⟩ := bi h
    have f7 : ∀ ws new s, (callR2 (AF (tabOf p)) i_draw_New ([.p (.sl 1 (List.map (r_i .u8) x0)), .p (.i .i64 160)], ws) 1 new).run s = some ⟨.ptr new 0, ws ++ [(new, .box (List.map AV.p (e_pagemenddraw_Codes r5)))]⟩ := callR2_new rfl (e_draw_New p h6) (all_plain_mapp _)
    try simp only [Nf] at f7
    obtain ⟨r8, h9, h⟩ := bi h
    have f10 : ∀ ws new s, boxesAt ws s [0] [List.map AV.p (e_pagemenddraw_Codes r5)] → (callR2 (AF (tabOf p)) i_draw_Codes_Next ([.ptr 0 0, .p (.i .i64 5)], ws) 0 new).run s = some ⟨.p (.i .i64 r8.1), ws ++ [(0, .box (List.map AV.p (e_pagemenddraw_Codes r8.2)))]⟩ := callR2_ptrs (args' := [.ptr 0 0, .p (.i .i64 5)]) (bs := [0]) (css := [List.map AV.p (e_pagemenddraw_Codes r5)]) (css' := [List.map AV.p (e_pagemenddraw_Codes r8.2)]) rfl rfl rfl (by simp [allPlain, all_plain_mapp]) (e_draw_Codes_Next p h9) rfl rfl (by simp [allPlain, all_plain_mapp])
    try simp only [Nf] at f10
    obtain ⟨r11, h12, h⟩ := bi h
    have f13 : ∀ ws new s, boxesAt ws s [0] [List.map AV.p (e_pagemenddraw_Codes r8.2)] → (callR2 (AF (tabOf p)) i_draw_Codes_Page ([.ptr 0 0, .p (.i .i64 r8.1)], ws) 0 new).run s = some ⟨.data (e_api_Page r11.1), ws ++ [(0, .box (List.map AV.p (e_pagemenddraw_Codes r11.2)))]⟩ := callR2_ptrs (args' := [.ptr 0 0, .p (.i .i64 r8.1)]) (bs := [0]) (css := [List.map AV.p (e_pagemenddraw_Codes r8.2)]) (css' := [List.map AV.p (e_pagemenddraw_Codes r11.2)]) rfl rfl rfl (by simp [allPlain, all_plain_mapp]) (e_draw_Codes_Page p h12) rfl rfl (by simp [allPlain, all_plain_mapp])
    try simp only [Nf] at f13
    obtain ⟨r14, h15, h⟩ := bi h
    have f16 := q_ref02_Encode p h15
    try simp only [Nf] at f16
    try simp only [↓Da, Ua, c_law02_PageForms, B_api_Cell, B_ar_eareapiCell16, B_api_Page, B_pagemenddraw_Codes, *, ↓reduceIte, Nat.reduceEqDiff, Nat.reduceAdd, Nat.reduceLT, Nat.reduceMul]
    have e0 := e_law02_PageForms_0_w p h
    exact e0
  · obtain rfl := sj h
    try simp only [↓Da, Ua, c_law02_PageForms, B_api_Cell, B_ar_eareapiCell16, B_api_Page, B_pagemenddraw_Codes, z_law02_PageForms, *, ↓reduceIte, Nat.reduceEqDiff, Nat.reduceAdd, Nat.reduceLT, Nat.reduceMul]
    rfl


theorem e_law02_PageForms {x0 : List Int} {o : Bool} (h : S_law02_PageForms x0 = some o) : AF (tabOf p) i_law02_PageForms [.p (.sl 1 (List.map (r_i .u8) x0))] [] = d_law02_PageForms o :=
  (AF_rk (tabOf p) (t_law02_PageForms p) rfl).trans (e_law02_PageForms_top p h)

theorem q_law02_PageForms {x0 : List Int} {o : Bool} (h : S_law02_PageForms x0 = some o) : ∀ ws new st, (callR2 (AF (tabOf p)) i_law02_PageForms ([.p (.sl 1 (List.map (r_i .u8) x0))], ws) 0 new).run st = some ⟨.p (.b o), ws⟩ := callR2_plain rfl (e_law02_PageForms p h) rfl


end
end Go.Am
end

