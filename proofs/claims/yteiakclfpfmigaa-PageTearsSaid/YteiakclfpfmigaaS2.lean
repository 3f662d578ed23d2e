/-
  What the functions do, with types; written by a program from the translation.
-/
import Derived.Test.YteiakclfpfmigaaS1
namespace Go.Am
set_option linter.unusedSimpArgs false
set_option linter.unusedVariables false

noncomputable section
variable (p : FuncId → Option (List AV → List Blk → Option Res))

/-! (*pagemend/pagemenddraw.Codes).Page -/

def d_draw_Codes_Page  (r : T_api_Page × T_pagemenddraw_Codes) : Option Res := some (.data (e_api_Page r.1), [.box (List.map AV.p (e_pagemenddraw_Codes r.2))])

def d_draw_Codes_Page_0 (b1 : T_api_Page) (o : (Int × T_pagemenddraw_Codes × T_api_Page) ⊕ (T_api_Page × T_pagemenddraw_Codes)) : Option Res := match o with
  | .inl s => rk (tabOf p) f_draw_Codes_Page 1 [.bl 0, .sq (.keep [4, 5] c_draw_Codes_Page_1)] (X (tabOf p) (.lp 3 [0, 4, 5, 6] c_draw_Codes_Page_0) ⟨[(0, .ptr 0 0), (4, .ptr 1 0), (5, .ptr 2 0), (6, .p (.i .i64 s.1))], [.box (List.map AV.p (e_pagemenddraw_Codes s.2.1)), .box (List.map AV.p (e_api_Page b1)), .box (List.map AV.p (e_api_Page s.2.2))]⟩)
  | .inr o => d_draw_Codes_Page o

def S_draw_Codes_Page_1 (b0 : T_pagemenddraw_Codes) (b1 : T_api_Page) (b2 : T_api_Page) : Option (T_api_Page × T_pagemenddraw_Codes) :=
  some (b2, b0)

theorem e_draw_Codes_Page_1 {b0 : T_pagemenddraw_Codes} {b1 : T_api_Page} {b2 : T_api_Page} {o : T_api_Page × T_pagemenddraw_Codes} (h : S_draw_Codes_Page_1 b0 b1 b2 = some o) :
    rk (tabOf p) f_draw_Codes_Page 1 [] (X (tabOf p) c_draw_Codes_Page_1 ⟨[(4, .ptr 1 0), (5, .ptr 2 0)], [.box (List.map AV.p (e_pagemenddraw_Codes b0)), .box (List.map AV.p (e_api_Page b1)), .box (List.map AV.p (e_api_Page b2))]⟩) = d_draw_Codes_Page o := by
  unfold S_draw_Codes_Page_1 at h
  obtain rfl := Option.some.inj h
  simp only [↓Da1, ↓Da2, ↓Da3, Ua1, Ua2, Ua3, Ua4, Ua5, Ua6, Ua7, Ua8, Ua9, Ua10, Ua11, c_draw_Codes_Page_1, B_api_Cell, B_ar_eareapiCell16, B_api_Page, z_draw_Codes_Page, ↓reduceIte, Nat.reduceEqDiff, Nat.reduceAdd, Nat.reduceLT, Nat.reduceMul]
  rfl


def S_draw_Codes_Page_0 (b1 : T_api_Page) (x6 : Int) (b0 : T_pagemenddraw_Codes) (b2 : T_api_Page) : Option (((Int × T_pagemenddraw_Codes × T_api_Page) ⊕ (T_api_Page × T_pagemenddraw_Codes))) :=
  if (decide (x6 > 0)) then
    Option.bind (S_draw_Codes_Next b0 16) fun r2 =>
    Option.bind (S_draw_Codes_Cell r2.2) fun r5 =>
    Option.bind (inb 16 r2.1) fun u8 =>
    Option.bind (vget b2.Cells r2.1) fun y11 =>
    some (.inl ((IntKind.wrap .i64 (x6 - 1)), r5.2, (⟨b2.ID, b2.LSN, (vset b2.Cells r2.1 r5.1)⟩ : T_api_Page)))
  else
    Option.map (fun o => .inr o) (S_draw_Codes_Page_1 b0 b1 b2)

theorem e_draw_Codes_Page_0 {b1 : T_api_Page} {x6 : Int} {b0 : T_pagemenddraw_Codes} {b2 : T_api_Page} {o : ((Int × T_pagemenddraw_Codes × T_api_Page) ⊕ (T_api_Page × T_pagemenddraw_Codes))} (h : S_draw_Codes_Page_0 b1 x6 b0 b2 = some o) :
    rk (tabOf p) f_draw_Codes_Page 1 [.lo 3 [0, 4, 5, 6] c_draw_Codes_Page_0, .bl 0, .sq (.keep [4, 5] c_draw_Codes_Page_1)] (X (tabOf p) c_draw_Codes_Page_0 ⟨[(0, .ptr 0 0), (4, .ptr 1 0), (5, .ptr 2 0), (6, .p (.i .i64 x6))], [.box (List.map AV.p (e_pagemenddraw_Codes b0)), .box (List.map AV.p (e_api_Page b1)), .box (List.map AV.p (e_api_Page b2))]⟩) = (d_draw_Codes_Page_0 p b1) o := by
  unfold S_draw_Codes_Page_0 at h
  rcases ite_inv h with ⟨h1, h⟩ | ⟨h1, h⟩
  · obtain ⟨r2, h3, h⟩ := Option.bind_eq_some_iff.1 h
    have f4 : ∀ ws new s, boxesAt ws s [0] [List.map AV.p (e_pagemenddraw_Codes b0)] → (callR2 (AF (tabOf p)) i_draw_Codes_Next ([.ptr 0 0, .p (.i .i64 16)], ws) 0 new).run s = some ⟨.p (.i .i64 r2.1), ws ++ [(0, .box (List.map AV.p (e_pagemenddraw_Codes r2.2)))]⟩ := callR2_ptrs (args' := [.ptr 0 0, .p (.i .i64 16)]) (bs := [0]) (css := [List.map AV.p (e_pagemenddraw_Codes b0)]) (css' := [List.map AV.p (e_pagemenddraw_Codes r2.2)]) rfl rfl rfl (by simp [allPlain, all_plain_mapp]) (e_draw_Codes_Next p h3) rfl rfl (by simp [allPlain, all_plain_mapp])
    try simp only [Nf] at f4
    obtain ⟨r5, h6, h⟩ := Option.bind_eq_some_iff.1 h
    have f7 : ∀ ws new s, boxesAt ws s [0] [List.map AV.p (e_pagemenddraw_Codes r2.2)] → (callR2 (AF (tabOf p)) i_draw_Codes_Cell ([.ptr 0 0], ws) 0 new).run s = some ⟨.data (e_api_Cell r5.1), ws ++ [(0, .box (List.map AV.p (e_pagemenddraw_Codes r5.2)))]⟩ := callR2_ptrs (args' := [.ptr 0 0]) (bs := [0]) (css := [List.map AV.p (e_pagemenddraw_Codes r2.2)]) (css' := [List.map AV.p (e_pagemenddraw_Codes r5.2)]) rfl rfl rfl (by simp [allPlain, all_plain_mapp]) (e_draw_Codes_Cell p h6) rfl rfl (by simp [allPlain, all_plain_mapp])
    try simp only [Nf] at f7
    obtain ⟨u8, h9, h⟩ := Option.bind_eq_some_iff.1 h
    have f10 : (0 ≤ (r2.1 : Int) ∧ (r2.1 : Int) < ((16 : Nat) : Int)) = True := eq_true (inb_iff h9)
    obtain ⟨y11, h12, h⟩ := Option.bind_eq_some_iff.1 h
    have f13 : spl (e_api_Page b2) (2 + Int.toNat r2.1 * 2) (e_api_Cell r5.1) = some (e_api_Page (⟨b2.ID, b2.LSN, (vset b2.Cells r2.1 r5.1)⟩ : T_api_Page)) := by
      have e0 := (spl_spl (sub_api_Page_Cells b2) (ar_spl (v := b2.Cells) len_api_Cell (vget_lt h12) r5.1) (spl_api_Page_Cells b2 _))
      exact e0
    try simp only [Nf] at f13
    obtain rfl := Option.some.inj h
    simp only [↓Da1, ↓Da2, ↓Da3, Ua1, Ua2, Ua3, Ua4, Ua5, Ua6, Ua7, Ua8, Ua9, Ua10, Ua11, c_draw_Codes_Page_0, B_api_Cell, B_pagemenddraw_Codes, h1, f4, f7, f10, f13, ↓reduceIte, Nat.reduceEqDiff, Nat.reduceAdd, Nat.reduceLT, Nat.reduceMul]
    rfl
  · obtain ⟨o', h', rfl⟩ := Option.map_eq_some_iff.1 h
    simp only [↓Da1, ↓Da2, ↓Da3, Ua1, Ua2, Ua3, Ua4, Ua5, Ua6, Ua7, Ua8, Ua9, Ua10, Ua11, c_draw_Codes_Page_0, B_api_Cell, B_pagemenddraw_Codes, h1, ↓reduceIte, Nat.reduceEqDiff, Nat.reduceAdd, Nat.reduceLT, Nat.reduceMul]
    have e0 := e_draw_Codes_Page_1 p h'
    exact e0


def W_draw_Codes_Page_0 (b1 : T_api_Page) (s : Int × T_pagemenddraw_Codes × T_api_Page) : Option (T_api_Page × T_pagemenddraw_Codes) :=
  whileO (fun s => S_draw_Codes_Page_0 b1 s.1 s.2.1 s.2.2) s

theorem e_draw_Codes_Page_0_w {b1 : T_api_Page} {s : Int × T_pagemenddraw_Codes × T_api_Page} {o : T_api_Page × T_pagemenddraw_Codes} (h : W_draw_Codes_Page_0 b1 s = some o) :
    rk (tabOf p) f_draw_Codes_Page 1 [.bl 0, .sq (.keep [4, 5] c_draw_Codes_Page_1)] (X (tabOf p) (.lp 3 [0, 4, 5, 6] c_draw_Codes_Page_0) ⟨[(0, .ptr 0 0), (4, .ptr 1 0), (5, .ptr 2 0), (6, .p (.i .i64 s.1))], [.box (List.map AV.p (e_pagemenddraw_Codes s.2.1)), .box (List.map AV.p (e_api_Page b1)), .box (List.map AV.p (e_api_Page s.2.2))]⟩) = d_draw_Codes_Page o := by
  have h0 : whileO (fun s => S_draw_Codes_Page_0 b1 s.1 s.2.1 s.2.2) s = some o := h
  exact while_ind (P := fun (s : Int × T_pagemenddraw_Codes × T_api_Page) (o : T_api_Page × T_pagemenddraw_Codes) => rk (tabOf p) f_draw_Codes_Page 1 [.bl 0, .sq (.keep [4, 5] c_draw_Codes_Page_1)] (X (tabOf p) (.lp 3 [0, 4, 5, 6] c_draw_Codes_Page_0) ⟨[(0, .ptr 0 0), (4, .ptr 1 0), (5, .ptr 2 0), (6, .p (.i .i64 s.1))], [.box (List.map AV.p (e_pagemenddraw_Codes s.2.1)), .box (List.map AV.p (e_api_Page b1)), .box (List.map AV.p (e_api_Page s.2.2))]⟩) = d_draw_Codes_Page o) (fun s r hs => by rw [rk_lp]; exact e_draw_Codes_Page_0 p hs) (fun s s1 r hs ih => by rw [rk_lp]; exact (e_draw_Codes_Page_0 p hs).trans ih) h0

def S_draw_Codes_Page_2 (b0 : T_pagemenddraw_Codes) (b1 : T_api_Page) (b2 : T_api_Page) : Option (T_api_Page × T_pagemenddraw_Codes) :=
  if (decide (b2.LSN > 0)) then
    Option.bind (S_draw_Codes_Next b0 6) fun r2 =>
    W_draw_Codes_Page_0 b1 (r2.1, r2.2, b2)
  else
    S_draw_Codes_Page_1 b0 b1 b2

theorem e_draw_Codes_Page_2 {b0 : T_pagemenddraw_Codes} {b1 : T_api_Page} {b2 : T_api_Page} {o : T_api_Page × T_pagemenddraw_Codes} (h : S_draw_Codes_Page_2 b0 b1 b2 = some o) :
    rk (tabOf p) f_draw_Codes_Page 1 [] (X (tabOf p) c_draw_Codes_Page_2 ⟨[(0, .ptr 0 0), (4, .ptr 1 0), (5, .ptr 2 0)], [.box (List.map AV.p (e_pagemenddraw_Codes b0)), .box (List.map AV.p (e_api_Page b1)), .box (List.map AV.p (e_api_Page b2))]⟩) = d_draw_Codes_Page o := by
  unfold S_draw_Codes_Page_2 at h
  rcases ite_inv h with ⟨h1, h⟩ | ⟨h1, h⟩
  · obtain ⟨r2, h3, h⟩ := Option.bind_eq_some_iff.1 h
    have f4 : ∀ ws new s, boxesAt ws s [0] [List.map AV.p (e_pagemenddraw_Codes b0)] → (callR2 (AF (tabOf p)) i_draw_Codes_Next ([.ptr 0 0, .p (.i .i64 6)], ws) 0 new).run s = some ⟨.p (.i .i64 r2.1), ws ++ [(0, .box (List.map AV.p (e_pagemenddraw_Codes r2.2)))]⟩ := callR2_ptrs (args' := [.ptr 0 0, .p (.i .i64 6)]) (bs := [0]) (css := [List.map AV.p (e_pagemenddraw_Codes b0)]) (css' := [List.map AV.p (e_pagemenddraw_Codes r2.2)]) rfl rfl rfl (by simp [allPlain, all_plain_mapp]) (e_draw_Codes_Next p h3) rfl rfl (by simp [allPlain, all_plain_mapp])
    try simp only [Nf] at f4
    simp only [↓Da1, ↓Da2, ↓Da3, Ua1, Ua2, Ua3, Ua4, Ua5, Ua6, Ua7, Ua8, Ua9, Ua10, Ua11, c_draw_Codes_Page_2, B_api_Cell, B_ar_eareapiCell16, B_api_Page, B_pagemenddraw_Codes, h1, f4, ↓reduceIte, Nat.reduceEqDiff, Nat.reduceAdd, Nat.reduceLT, Nat.reduceMul]
    have e0 := e_draw_Codes_Page_0_w p h
    exact e0
  · simp only [↓Da1, ↓Da2, ↓Da3, Ua1, Ua2, Ua3, Ua4, Ua5, Ua6, Ua7, Ua8, Ua9, Ua10, Ua11, c_draw_Codes_Page_2, B_api_Cell, B_ar_eareapiCell16, B_api_Page, B_pagemenddraw_Codes, h1, ↓reduceIte, Nat.reduceEqDiff, Nat.reduceAdd, Nat.reduceLT, Nat.reduceMul]
    have e0 := e_draw_Codes_Page_1 p h
    exact e0


def S_draw_Codes_Page (b0 : T_pagemenddraw_Codes) (x1 : Int) : Option (T_api_Page × T_pagemenddraw_Codes) :=
  Option.bind (S_draw_Codes_Next b0 50) fun r1 =>
  Option.bind (S_draw_Codes_Next r1.2 10) fun r4 =>
  if ((r4.1 : Int) == 9) then
    Option.bind (S_draw_Codes_Next r4.2 2) fun r8 =>
    S_draw_Codes_Page_2 r8.2 (⟨0, 0, (Vector.replicate 16 (⟨false, []⟩ : T_api_Cell))⟩ : T_api_Page) (⟨x1, (IntKind.wrap .i64 (1099511627776 - r8.1)), (Vector.replicate 16 (⟨false, []⟩ : T_api_Cell))⟩ : T_api_Page)
  else
    S_draw_Codes_Page_2 r4.2 (⟨0, 0, (Vector.replicate 16 (⟨false, []⟩ : T_api_Cell))⟩ : T_api_Page) (⟨x1, r1.1, (Vector.replicate 16 (⟨false, []⟩ : T_api_Cell))⟩ : T_api_Page)

theorem e_draw_Codes_Page_top {b0 : T_pagemenddraw_Codes} {x1 : Int} {o : T_api_Page × T_pagemenddraw_Codes} (h : S_draw_Codes_Page b0 x1 = some o) :
    rk (tabOf p) f_draw_Codes_Page 1 [] (X (tabOf p) c_draw_Codes_Page ⟨[(0, .ptr 0 0), (1, .p (.i .i64 x1))], [.box (List.map AV.p (e_pagemenddraw_Codes b0))]⟩) = d_draw_Codes_Page o := by
  unfold S_draw_Codes_Page at h
  obtain ⟨r1, h2, h⟩ := Option.bind_eq_some_iff.1 h
  have f3 : ∀ ws new s, boxesAt ws s [0] [List.map AV.p (e_pagemenddraw_Codes b0)] → (callR2 (AF (tabOf p)) i_draw_Codes_Next ([.ptr 0 0, .p (.i .i64 50)], ws) 0 new).run s = some ⟨.p (.i .i64 r1.1), ws ++ [(0, .box (List.map AV.p (e_pagemenddraw_Codes r1.2)))]⟩ := callR2_ptrs (args' := [.ptr 0 0, .p (.i .i64 50)]) (bs := [0]) (css := [List.map AV.p (e_pagemenddraw_Codes b0)]) (css' := [List.map AV.p (e_pagemenddraw_Codes r1.2)]) rfl rfl rfl (by simp [allPlain, all_plain_mapp]) (e_draw_Codes_Next p h2) rfl rfl (by simp [allPlain, all_plain_mapp])
  try simp only [Nf] at f3
  obtain ⟨r4, h5, h⟩ := Option.bind_eq_some_iff.1 h
  have f6 : ∀ ws new s, boxesAt ws s [0] [List.map AV.p (e_pagemenddraw_Codes r1.2)] → (callR2 (AF (tabOf p)) i_draw_Codes_Next ([.ptr 0 0, .p (.i .i64 10)], ws) 0 new).run s = some ⟨.p (.i .i64 r4.1), ws ++ [(0, .box (List.map AV.p (e_pagemenddraw_Codes r4.2)))]⟩ := callR2_ptrs (args' := [.ptr 0 0, .p (.i .i64 10)]) (bs := [0]) (css := [List.map AV.p (e_pagemenddraw_Codes r1.2)]) (css' := [List.map AV.p (e_pagemenddraw_Codes r4.2)]) rfl rfl rfl (by simp [allPlain, all_plain_mapp]) (e_draw_Codes_Next p h5) rfl rfl (by simp [allPlain, all_plain_mapp])
  try simp only [Nf] at f6
  rcases ite_inv h with ⟨h7, h⟩ | ⟨h7, h⟩
  · obtain ⟨r8, h9, h⟩ := Option.bind_eq_some_iff.1 h
    have f10 : ∀ ws new s, boxesAt ws s [0] [List.map AV.p (e_pagemenddraw_Codes r4.2)] → (callR2 (AF (tabOf p)) i_draw_Codes_Next ([.ptr 0 0, .p (.i .i64 2)], ws) 0 new).run s = some ⟨.p (.i .i64 r8.1), ws ++ [(0, .box (List.map AV.p (e_pagemenddraw_Codes r8.2)))]⟩ := callR2_ptrs (args' := [.ptr 0 0, .p (.i .i64 2)]) (bs := [0]) (css := [List.map AV.p (e_pagemenddraw_Codes r4.2)]) (css' := [List.map AV.p (e_pagemenddraw_Codes r8.2)]) rfl rfl rfl (by simp [allPlain, all_plain_mapp]) (e_draw_Codes_Next p h9) rfl rfl (by simp [allPlain, all_plain_mapp])
    try simp only [Nf] at f10
    simp only [↓Da1, ↓Da2, ↓Da3, Ua1, Ua2, Ua3, Ua4, Ua5, Ua6, Ua7, Ua8, Ua9, Ua10, Ua11, c_draw_Codes_Page, B_api_Cell, B_ar_eareapiCell16, B_api_Page, B_pagemenddraw_Codes, f3, f6, h7, f10, ↓reduceIte, Nat.reduceEqDiff, Nat.reduceAdd, Nat.reduceLT, Nat.reduceMul]
    have e0 := e_draw_Codes_Page_2 p h
    exact e0
  · simp only [↓Da1, ↓Da2, ↓Da3, Ua1, Ua2, Ua3, Ua4, Ua5, Ua6, Ua7, Ua8, Ua9, Ua10, Ua11, c_draw_Codes_Page, B_api_Cell, B_ar_eareapiCell16, B_api_Page, B_pagemenddraw_Codes, f3, f6, h7, ↓reduceIte, Nat.reduceEqDiff, Nat.reduceAdd, Nat.reduceLT, Nat.reduceMul]
    have e0 := e_draw_Codes_Page_2 p h
    exact e0


theorem e_draw_Codes_Page {b0 : T_pagemenddraw_Codes} {x1 : Int} {o : T_api_Page × T_pagemenddraw_Codes} (h : S_draw_Codes_Page b0 x1 = some o) : AF (tabOf p) i_draw_Codes_Page [.ptr 0 0, .p (.i .i64 x1)] [.box (List.map AV.p (e_pagemenddraw_Codes b0))] = d_draw_Codes_Page o :=
  (AF_rk (tabOf p) (t_draw_Codes_Page p) rfl).trans (e_draw_Codes_Page_top p h)

/-! pagemend/page.Blank -/

def d_page_Blank  (r : (List UInt8)) : Option Res := some (.p (.s r), [])

def S_page_Blank  : Option ((List UInt8)) :=
  Option.bind (S_strings_Repeat ([0]) 256) fun r1 =>
  some r1

theorem e_page_Blank_top  {o : (List UInt8)} (h : S_page_Blank = some o) :
    rk (tabOf p) f_page_Blank 0 [] (X (tabOf p) c_page_Blank ⟨[], []⟩) = d_page_Blank o := by
  unfold S_page_Blank at h
  obtain ⟨r1, h2, h⟩ := Option.bind_eq_some_iff.1 h
  have f3 : ∀ ws new s, (callR2 (AF (tabOf p)) i_strings_Repeat ([.p (.s [0]), .p (.i .i64 256)], ws) 0 new).run s = some ⟨.p (.s r1), ws⟩ := callR2_plain rfl (e_strings_Repeat p h2) rfl
  try simp only [Nf] at f3
  obtain rfl := Option.some.inj h
  simp only [↓Da1, ↓Da2, ↓Da3, Ua1, Ua2, Ua3, Ua4, Ua5, Ua6, Ua7, Ua8, Ua9, Ua10, Ua11, c_page_Blank, f3, z_page_Blank, ↓reduceIte, Nat.reduceEqDiff, Nat.reduceAdd, Nat.reduceLT, Nat.reduceMul]
  rfl


theorem e_page_Blank  {o : (List UInt8)} (h : S_page_Blank = some o) : AF (tabOf p) i_page_Blank [] [] = d_page_Blank o :=
  (AF_rk (tabOf p) (t_page_Blank p) rfl).trans (e_page_Blank_top p h)

/-! pagemend/page.placed -/

def d_page_placed  (r : Bool) : Option Res := some (.p (.b r), [])

def S_page_placed (x0 : T_api_Page) : Option (Bool) :=
  Option.bind (S_page_named x0.ID) fun r1 =>
  if r1 then
    if (decide (x0.LSN ≥ 0)) then
      some (decide (x0.LSN ≤ 1099511627776))
    else
      some false
  else
    some false

theorem e_page_placed_top {x0 : T_api_Page} {o : Bool} (h : S_page_placed x0 = some o) :
    rk (tabOf p) f_page_placed 0 [] (X (tabOf p) c_page_placed ⟨[(0, .data (e_api_Page x0))], []⟩) = d_page_placed o := by
  unfold S_page_placed at h
  obtain ⟨r1, h2, h⟩ := Option.bind_eq_some_iff.1 h
  have f3 : ∀ ws new s, (callR2 (AF (tabOf p)) i_page_named ([.p (.i .i64 x0.ID)], ws) 0 new).run s = some ⟨.p (.b r1), ws⟩ := callR2_plain rfl (e_page_named p h2) rfl
  try simp only [Nf] at f3
  rcases ite_inv h with ⟨h4, h⟩ | ⟨h4, h⟩
  · rcases ite_inv h with ⟨h5, h⟩ | ⟨h5, h⟩
    · obtain rfl := Option.some.inj h
      simp only [↓Da1, ↓Da2, ↓Da3, Ua1, Ua2, Ua3, Ua4, Ua5, Ua6, Ua7, Ua8, Ua9, Ua10, Ua11, c_page_placed, B_api_Cell, B_ar_eareapiCell16, B_api_Page, f3, h4, h5, z_page_placed, ↓reduceIte, Nat.reduceEqDiff, Nat.reduceAdd, Nat.reduceLT, Nat.reduceMul]
      rfl
    · obtain rfl := Option.some.inj h
      simp only [↓Da1, ↓Da2, ↓Da3, Ua1, Ua2, Ua3, Ua4, Ua5, Ua6, Ua7, Ua8, Ua9, Ua10, Ua11, c_page_placed, B_api_Cell, B_ar_eareapiCell16, B_api_Page, f3, h4, h5, z_page_placed, ↓reduceIte, Nat.reduceEqDiff, Nat.reduceAdd, Nat.reduceLT, Nat.reduceMul]
      rfl
  · obtain rfl := Option.some.inj h
    simp only [↓Da1, ↓Da2, ↓Da3, Ua1, Ua2, Ua3, Ua4, Ua5, Ua6, Ua7, Ua8, Ua9, Ua10, Ua11, c_page_placed, B_api_Cell, B_ar_eareapiCell16, B_api_Page, f3, h4, z_page_placed, ↓reduceIte, Nat.reduceEqDiff, Nat.reduceAdd, Nat.reduceLT, Nat.reduceMul]
    rfl


theorem e_page_placed {x0 : T_api_Page} {o : Bool} (h : S_page_placed x0 = some o) : AF (tabOf p) i_page_placed [.data (e_api_Page x0)] [] = d_page_placed o :=
  (AF_rk (tabOf p) (t_page_placed p) rfl).trans (e_page_placed_top p h)

/-! (*pagemend/page.builder).cell -/

def d_page_builder_cell  (r : T_page_builder) : Option Res := some (.tup [], [.box (List.map AV.p (e_page_builder r))])

def S_page_builder_cell_0 (x4 : Int) (b0 : T_page_builder) (b1 : T_api_Cell) : Option (T_page_builder) :=
  Option.bind (S_codec_Put b0.s_ x4 1) fun r1 =>
  Option.bind (catS r1 b1.Data) fun s5 =>
  Option.bind (S_strings_Repeat ([0]) (IntKind.wrap .i64 (12 - ((List.length b1.Data : Nat) : Int)))) fun r7 =>
  Option.bind (catS s5 r7) fun s11 =>
  some (⟨s11⟩ : T_page_builder)

theorem e_page_builder_cell_0 {x4 : Int} {b0 : T_page_builder} {b1 : T_api_Cell} {o : T_page_builder} (h : S_page_builder_cell_0 x4 b0 b1 = some o) :
    rk (tabOf p) f_page_builder_cell 1 [] (X (tabOf p) c_page_builder_cell_0 ⟨[(0, .ptr 0 0), (3, .ptr 1 0), (4, .p (.i .i64 x4))], [.box (List.map AV.p (e_page_builder b0)), .box (List.map AV.p (e_api_Cell b1))]⟩) = d_page_builder_cell o := by
  unfold S_page_builder_cell_0 at h
  obtain ⟨r1, h2, h⟩ := Option.bind_eq_some_iff.1 h
  have f3 : ∀ ws new s, (callR2 (AF (tabOf p)) i_codec_Put ([.p (.s b0.s_), .p (.i .i64 x4), .p (.i .i64 1)], ws) 0 new).run s = some ⟨.p (.s r1), ws⟩ := callR2_plain rfl (e_codec_Put p h2) rfl
  try simp only [Nf, U_page_builder] at f3
  have f4 : ∀ ws k new s, blksOf ((callR2 (AF (tabOf p)) i_codec_Put ([.p (.s b0.s_), .p (.i .i64 x4), .p (.i .i64 1)], ws) k new).reads s) = [] := callR2_reads_plain rfl
  try simp only [Nf, U_page_builder] at f4
  obtain ⟨s5, h6, h⟩ := Option.bind_eq_some_iff.1 h
  obtain ⟨r7, h8, h⟩ := Option.bind_eq_some_iff.1 h
  have f9 : ∀ ws new s, (callR2 (AF (tabOf p)) i_strings_Repeat ([.p (.s [0]), .p (.i .i64 (IntKind.wrap .i64 (12 - ((List.length b1.Data : Nat) : Int))))], ws) 0 new).run s = some ⟨.p (.s r7), ws⟩ := callR2_plain rfl (e_strings_Repeat p h8) rfl
  try simp only [Nf, U_page_builder] at f9
  have f10 : ∀ ws k new s, blksOf ((callR2 (AF (tabOf p)) i_strings_Repeat ([.p (.s [0]), .p (.i .i64 (IntKind.wrap .i64 (12 - ((List.length b1.Data : Nat) : Int))))], ws) k new).reads s) = [] := callR2_reads_plain rfl
  try simp only [Nf, U_page_builder] at f10
  obtain ⟨s11, h12, h⟩ := Option.bind_eq_some_iff.1 h
  obtain rfl := Option.some.inj h
  simp only [↓Da1, ↓Da2, ↓Da3, Ua1, Ua2, Ua3, Ua4, Ua5, Ua6, Ua7, Ua8, Ua9, Ua10, Ua11, Ra1, Ra2, c_page_builder_cell_0, B_api_Cell, U_page_builder, f3, f4, h6, f9, f10, h12, z_page_builder_cell, ↓reduceIte, Nat.reduceEqDiff, Nat.reduceAdd, Nat.reduceLT, Nat.reduceMul, Nat.reduceBEq]
  rfl


def S_page_builder_cell (b0 : T_page_builder) (x1 : T_api_Cell) : Option (T_page_builder) :=
  if x1.Set then
    S_page_builder_cell_0 ((List.length x1.Data : Nat) : Int) b0 x1
  else
    S_page_builder_cell_0 255 b0 x1

theorem e_page_builder_cell_top {b0 : T_page_builder} {x1 : T_api_Cell} {o : T_page_builder} (h : S_page_builder_cell b0 x1 = some o) :
    rk (tabOf p) f_page_builder_cell 1 [] (X (tabOf p) c_page_builder_cell ⟨[(0, .ptr 0 0), (1, .data (e_api_Cell x1))], [.box (List.map AV.p (e_page_builder b0))]⟩) = d_page_builder_cell o := by
  unfold S_page_builder_cell at h
  rcases ite_inv h with ⟨h1, h⟩ | ⟨h1, h⟩
  · simp only [↓Da1, ↓Da2, ↓Da3, Ua1, Ua2, Ua3, Ua4, Ua5, Ua6, Ua7, Ua8, Ua9, Ua10, Ua11, c_page_builder_cell, B_api_Cell, U_page_builder, h1, ↓reduceIte, Nat.reduceEqDiff, Nat.reduceAdd, Nat.reduceLT, Nat.reduceMul]
    have e0 := e_page_builder_cell_0 p h
    exact e0
  · simp only [↓Da1, ↓Da2, ↓Da3, Ua1, Ua2, Ua3, Ua4, Ua5, Ua6, Ua7, Ua8, Ua9, Ua10, Ua11, c_page_builder_cell, B_api_Cell, U_page_builder, h1, ↓reduceIte, Nat.reduceEqDiff, Nat.reduceAdd, Nat.reduceLT, Nat.reduceMul]
    have e0 := e_page_builder_cell_0 p h
    exact e0


theorem e_page_builder_cell {b0 : T_page_builder} {x1 : T_api_Cell} {o : T_page_builder} (h : S_page_builder_cell b0 x1 = some o) : AF (tabOf p) i_page_builder_cell [.ptr 0 0, .data (e_api_Cell x1)] [.box (List.map AV.p (e_page_builder b0))] = d_page_builder_cell o :=
  (AF_rk (tabOf p) (t_page_builder_cell p) rfl).trans (e_page_builder_cell_top p h)

/-! pagemend/codec.Sum -/

def d_codec_Sum  (r : Int) : Option Res := some (.p (.i .u32 r), [])

def d_codec_Sum_0 (x0 : List UInt8) (x8 : Int) (b0 : Vector Int 16) (o : (Int × Int) ⊕ (Int)) : Option Res := match o with
  | .inl s => rk (tabOf p) f_codec_Sum 0 [.bl 0, .sq (.keep [4] c_codec_Sum_1)] (X (tabOf p) (.lp 1 [0, 3, 4, 8, 9] c_codec_Sum_0) ⟨[(0, .p (.s x0)), (3, .ptr 0 0), (4, .p (.i .u32 s.1)), (8, .p (.i .i64 x8)), (9, .p (.i .i64 s.2))], [.box (List.map AV.p ((e_ar (r_i .u32)) b0))]⟩)
  | .inr o => d_codec_Sum o

def S_codec_Sum_1 (x4 : Int) : Option (Int) :=
  some (notI .u32 x4)

theorem e_codec_Sum_1 {x4 : Int} {B0 : List PV} {o : Int} (h : S_codec_Sum_1 x4 = some o) :
    rk (tabOf p) f_codec_Sum 0 [] (X (tabOf p) c_codec_Sum_1 ⟨[(4, .p (.i .u32 x4))], [.box (List.map AV.p B0)]⟩) = d_codec_Sum o := by
  unfold S_codec_Sum_1 at h
  obtain rfl := Option.some.inj h
  simp only [↓Da1, ↓Da2, ↓Da3, Ua1, Ua2, Ua3, Ua4, Ua5, Ua6, Ua7, Ua8, Ua9, Ua10, Ua11, c_codec_Sum_1, z_codec_Sum, ↓reduceIte, Nat.reduceEqDiff, Nat.reduceAdd, Nat.reduceLT, Nat.reduceMul]
  rfl


def S_codec_Sum_0 (x0 : List UInt8) (x8 : Int) (b0 : Vector Int 16) (x4 : Int) (x9 : Int) : Option (((Int × Int) ⊕ (Int))) :=
  if (decide (x9 < x8)) then
    Option.bind (sidS x0 x9) fun c2 =>
    Option.bind (shrS .u32 (xorI .u32 x4 (IntKind.wrap .u32 c2)) 4) fun q4 =>
    Option.bind (inb 16 (andI .u32 (xorI .u32 x4 (IntKind.wrap .u32 c2)) 15)) fun u6 =>
    Option.bind (vget b0 (andI .u32 (xorI .u32 x4 (IntKind.wrap .u32 c2)) 15)) fun y9 =>
    Option.bind (shrS .u32 (xorI .u32 q4 y9) 4) fun q12 =>
    Option.bind (inb 16 (andI .u32 (xorI .u32 q4 y9) 15)) fun u14 =>
    Option.bind (vget b0 (andI .u32 (xorI .u32 q4 y9) 15)) fun y17 =>
    some (.inl ((xorI .u32 q12 y17), (IntKind.wrap .i64 (x9 + 1))))
  else
    Option.map (fun o => .inr o) (S_codec_Sum_1 x4)

theorem e_codec_Sum_0 {x0 : List UInt8} {x8 : Int} {b0 : Vector Int 16} {x4 : Int} {x9 : Int} {o : ((Int × Int) ⊕ (Int))} (h : S_codec_Sum_0 x0 x8 b0 x4 x9 = some o) :
    rk (tabOf p) f_codec_Sum 0 [.lo 1 [0, 3, 4, 8, 9] c_codec_Sum_0, .bl 0, .sq (.keep [4] c_codec_Sum_1)] (X (tabOf p) c_codec_Sum_0 ⟨[(0, .p (.s x0)), (3, .ptr 0 0), (4, .p (.i .u32 x4)), (8, .p (.i .i64 x8)), (9, .p (.i .i64 x9))], [.box (List.map AV.p ((e_ar (r_i .u32)) b0))]⟩) = (d_codec_Sum_0 p x0 x8 b0) o := by
  unfold S_codec_Sum_0 at h
  rcases ite_inv h with ⟨h1, h⟩ | ⟨h1, h⟩
  · obtain ⟨c2, h3, h⟩ := Option.bind_eq_some_iff.1 h
    obtain ⟨q4, h5, h⟩ := Option.bind_eq_some_iff.1 h
    obtain ⟨u6, h7, h⟩ := Option.bind_eq_some_iff.1 h
    have f8 : (0 ≤ ((andI .u32 (xorI .u32 x4 (IntKind.wrap .u32 c2)) 15) : Int) ∧ ((andI .u32 (xorI .u32 x4 (IntKind.wrap .u32 c2)) 15) : Int) < ((16 : Nat) : Int)) = True := eq_true (inb_iff h7)
    obtain ⟨y9, h10, h⟩ := Option.bind_eq_some_iff.1 h
    have f11 : sub ((e_ar (r_i .u32)) b0) (Int.toNat (andI .u32 (xorI .u32 x4 (IntKind.wrap .u32 c2)) 15) * 1) 1 = some ((r_i .u32) y9) := by
      have e0 := (ar_sub (v := b0) (r_i_len .u32) (vget_iff h10).2)
      exact e0
    try simp only [Nf] at f11
    obtain ⟨q12, h13, h⟩ := Option.bind_eq_some_iff.1 h
    obtain ⟨u14, h15, h⟩ := Option.bind_eq_some_iff.1 h
    have f16 : (0 ≤ ((andI .u32 (xorI .u32 q4 y9) 15) : Int) ∧ ((andI .u32 (xorI .u32 q4 y9) 15) : Int) < ((16 : Nat) : Int)) = True := eq_true (inb_iff h15)
    obtain ⟨y17, h18, h⟩ := Option.bind_eq_some_iff.1 h
    have f19 : sub ((e_ar (r_i .u32)) b0) (Int.toNat (andI .u32 (xorI .u32 q4 y9) 15) * 1) 1 = some ((r_i .u32) y17) := by
      have e0 := (ar_sub (v := b0) (r_i_len .u32) (vget_iff h18).2)
      exact e0
    try simp only [Nf] at f19
    obtain rfl := Option.some.inj h
    simp only [↓Da1, ↓Da2, ↓Da3, Ua1, Ua2, Ua3, Ua4, Ua5, Ua6, Ua7, Ua8, Ua9, Ua10, Ua11, c_codec_Sum_0, B_ar_earriu3216, h1, h3, h5, f8, f11, h13, f16, f19, ↓reduceIte, Nat.reduceEqDiff, Nat.reduceAdd, Nat.reduceLT, Nat.reduceMul]
    rfl
  · obtain ⟨o', h', rfl⟩ := Option.map_eq_some_iff.1 h
    simp only [↓Da1, ↓Da2, ↓Da3, Ua1, Ua2, Ua3, Ua4, Ua5, Ua6, Ua7, Ua8, Ua9, Ua10, Ua11, c_codec_Sum_0, B_ar_earriu3216, h1, ↓reduceIte, Nat.reduceEqDiff, Nat.reduceAdd, Nat.reduceLT, Nat.reduceMul]
    have e0 := e_codec_Sum_1 p (B0 := ((e_ar (r_i .u32)) b0)) h'
    exact e0


def W_codec_Sum_0 (x0 : List UInt8) (x8 : Int) (b0 : Vector Int 16) (s : Int × Int) : Option (Int) :=
  whileO (fun s => S_codec_Sum_0 x0 x8 b0 s.1 s.2) s

theorem e_codec_Sum_0_w {x0 : List UInt8} {x8 : Int} {b0 : Vector Int 16} {s : Int × Int} {o : Int} (h : W_codec_Sum_0 x0 x8 b0 s = some o) :
    rk (tabOf p) f_codec_Sum 0 [.bl 0, .sq (.keep [4] c_codec_Sum_1)] (X (tabOf p) (.lp 1 [0, 3, 4, 8, 9] c_codec_Sum_0) ⟨[(0, .p (.s x0)), (3, .ptr 0 0), (4, .p (.i .u32 s.1)), (8, .p (.i .i64 x8)), (9, .p (.i .i64 s.2))], [.box (List.map AV.p ((e_ar (r_i .u32)) b0))]⟩) = d_codec_Sum o := by
  have h0 : whileO (fun s => S_codec_Sum_0 x0 x8 b0 s.1 s.2) s = some o := h
  exact while_ind (P := fun (s : Int × Int) (o : Int) => rk (tabOf p) f_codec_Sum 0 [.bl 0, .sq (.keep [4] c_codec_Sum_1)] (X (tabOf p) (.lp 1 [0, 3, 4, 8, 9] c_codec_Sum_0) ⟨[(0, .p (.s x0)), (3, .ptr 0 0), (4, .p (.i .u32 s.1)), (8, .p (.i .i64 x8)), (9, .p (.i .i64 s.2))], [.box (List.map AV.p ((e_ar (r_i .u32)) b0))]⟩) = d_codec_Sum o) (fun s r hs => by rw [rk_lp]; exact e_codec_Sum_0 p hs) (fun s s1 r hs ih => by rw [rk_lp]; exact (e_codec_Sum_0 p hs).trans ih) h0

def S_codec_Sum (x0 : List UInt8) : Option (Int) :=
  Option.bind (S_codec_remainders) fun r1 =>
  W_codec_Sum_0 x0 ((List.length x0 : Nat) : Int) r1 (4294967295, 0)

theorem e_codec_Sum_top {x0 : List UInt8} {o : Int} (h : S_codec_Sum x0 = some o) :
    rk (tabOf p) f_codec_Sum 0 [] (X (tabOf p) c_codec_Sum ⟨[(0, .p (.s x0))], []⟩) = d_codec_Sum o := by
  unfold S_codec_Sum at h
  obtain ⟨r1, h2, h⟩ := Option.bind_eq_some_iff.1 h
  have f3 : ∀ ws new s, (callR2 (AF (tabOf p)) i_codec_remainders ([], ws) 0 new).run s = some ⟨.data ((e_ar (r_i .u32)) r1), ws⟩ := callR2_plain rfl (e_codec_remainders p h2) rfl
  try simp only [Nf] at f3
  simp only [↓Da1, ↓Da2, ↓Da3, Ua1, Ua2, Ua3, Ua4, Ua5, Ua6, Ua7, Ua8, Ua9, Ua10, Ua11, c_codec_Sum, B_ar_earriu3216, f3, ↓reduceIte, Nat.reduceEqDiff, Nat.reduceAdd, Nat.reduceLT, Nat.reduceMul]
  have e0 := e_codec_Sum_0_w p h
  exact e0


theorem e_codec_Sum {x0 : List UInt8} {o : Int} (h : S_codec_Sum x0 = some o) : AF (tabOf p) i_codec_Sum [.p (.s x0)] [] = d_codec_Sum o :=
  (AF_rk (tabOf p) (t_codec_Sum p) rfl).trans (e_codec_Sum_top p h)

/-! pagemend/page.Encode -/

def d_page_Encode  (r : (List UInt8) × Int) : Option Res := some (.tup [.p (.s r.1), .p (.i .i64 r.2)], [])

def d_page_Encode_0 (x28 : Vector T_api_Cell 16) (b0 : T_api_Page) (o : (Int × T_page_builder) ⊕ ((List UInt8) × Int)) : Option Res := match o with
  | .inl s => rk (tabOf p) f_page_Encode 0 [.bl 1, .td 2 [1, 2, 3, 4], .sq (.keep [1, 4] c_page_Encode_1)] (X (tabOf p) (.lp 2 [1, 4, 5, 28, 29] c_page_Encode_0) ⟨[(1, .ptr 0 0), (4, .ptr 1 0), (5, .fn i_page_builder_cell [.ptr 1 0] []), (28, .data ((e_ar e_api_Cell) x28)), (29, .p (.i .i64 s.1))], [.box (List.map AV.p (e_api_Page b0)), .box (List.map AV.p (e_page_builder s.2))]⟩)
  | .inr o => d_page_Encode o

def S_page_Encode_1 (b0 : T_api_Page) (b1 : T_page_builder) : Option ((List UInt8) × Int) :=
  Option.bind (S_strings_Repeat ([0]) (IntKind.wrap .i64 (244 - ((List.length b1.s_ : Nat) : Int)))) fun r1 =>
  Option.bind (catS b1.s_ r1) fun s5 =>
  Option.bind (S_codec_Sum s5) fun r7 =>
  Option.bind (S_codec_Put s5 (IntKind.wrap .i64 r7) 4) fun r11 =>
  Option.bind (S_codec_Put r11 b0.LSN 8) fun r15 =>
  some (r15, 0)

theorem e_page_Encode_1 {b0 : T_api_Page} {b1 : T_page_builder} {o : (List UInt8) × Int} (h : S_page_Encode_1 b0 b1 = some o) :
    rk (tabOf p) f_page_Encode 0 [] (X (tabOf p) c_page_Encode_1 ⟨[(1, .ptr 0 0), (4, .ptr 1 0)], [.box (List.map AV.p (e_api_Page b0)), .box (List.map AV.p (e_page_builder b1))]⟩) = d_page_Encode o := by
  unfold S_page_Encode_1 at h
  obtain ⟨r1, h2, h⟩ := Option.bind_eq_some_iff.1 h
  have f3 : ∀ ws new s, (callR2 (AF (tabOf p)) i_strings_Repeat ([.p (.s [0]), .p (.i .i64 (IntKind.wrap .i64 (244 - ((List.length b1.s_ : Nat) : Int))))], ws) 0 new).run s = some ⟨.p (.s r1), ws⟩ := callR2_plain rfl (e_strings_Repeat p h2) rfl
  try simp only [Nf, U_page_builder] at f3
  have f4 : ∀ ws k new s, blksOf ((callR2 (AF (tabOf p)) i_strings_Repeat ([.p (.s [0]), .p (.i .i64 (IntKind.wrap .i64 (244 - ((List.length b1.s_ : Nat) : Int))))], ws) k new).reads s) = [] := callR2_reads_plain rfl
  try simp only [Nf, U_page_builder] at f4
  obtain ⟨s5, h6, h⟩ := Option.bind_eq_some_iff.1 h
  obtain ⟨r7, h8, h⟩ := Option.bind_eq_some_iff.1 h
  have f9 : ∀ ws new s, (callR2 (AF (tabOf p)) i_codec_Sum ([.p (.s s5)], ws) 0 new).run s = some ⟨.p (.i .u32 r7), ws⟩ := callR2_plain rfl (e_codec_Sum p h8) rfl
  try simp only [Nf, U_page_builder] at f9
  have f10 : ∀ ws k new s, blksOf ((callR2 (AF (tabOf p)) i_codec_Sum ([.p (.s s5)], ws) k new).reads s) = [] := callR2_reads_plain rfl
  try simp only [Nf, U_page_builder] at f10
  obtain ⟨r11, h12, h⟩ := Option.bind_eq_some_iff.1 h
  have f13 : ∀ ws new s, (callR2 (AF (tabOf p)) i_codec_Put ([.p (.s s5), .p (.i .i64 (IntKind.wrap .i64 r7)), .p (.i .i64 4)], ws) 0 new).run s = some ⟨.p (.s r11), ws⟩ := callR2_plain rfl (e_codec_Put p h12) rfl
  try simp only [Nf, U_page_builder] at f13
  have f14 : ∀ ws k new s, blksOf ((callR2 (AF (tabOf p)) i_codec_Put ([.p (.s s5), .p (.i .i64 (IntKind.wrap .i64 r7)), .p (.i .i64 4)], ws) k new).reads s) = [] := callR2_reads_plain rfl
  try simp only [Nf, U_page_builder] at f14
  obtain ⟨r15, h16, h⟩ := Option.bind_eq_some_iff.1 h
  have f17 : ∀ ws new s, (callR2 (AF (tabOf p)) i_codec_Put ([.p (.s r11), .p (.i .i64 b0.LSN), .p (.i .i64 8)], ws) 0 new).run s = some ⟨.p (.s r15), ws⟩ := callR2_plain rfl (e_codec_Put p h16) rfl
  try simp only [Nf, U_page_builder] at f17
  have f18 : ∀ ws k new s, blksOf ((callR2 (AF (tabOf p)) i_codec_Put ([.p (.s r11), .p (.i .i64 b0.LSN), .p (.i .i64 8)], ws) k new).reads s) = [] := callR2_reads_plain rfl
  try simp only [Nf, U_page_builder] at f18
  obtain rfl := Option.some.inj h
  simp only [↓Da1, ↓Da2, ↓Da3, Ua1, Ua2, Ua3, Ua4, Ua5, Ua6, Ua7, Ua8, Ua9, Ua10, Ua11, Ra1, Ra2, c_page_Encode_1, B_api_Cell, B_ar_eareapiCell16, B_api_Page, U_page_builder, f3, f4, h6, f9, f10, f13, f14, f17, f18, z_page_Encode, ↓reduceIte, Nat.reduceEqDiff, Nat.reduceAdd, Nat.reduceLT, Nat.reduceMul, Nat.reduceBEq]
  rfl


def S_page_Encode_0 (x28 : Vector T_api_Cell 16) (b0 : T_api_Page) (x29 : Int) (b1 : T_page_builder) : Option (((Int × T_page_builder) ⊕ ((List UInt8) × Int))) :=
  if (decide (x29 < 16)) then
    Option.bind (vget x28 x29) fun y2 =>
    Option.bind (S_page_builder_cell b1 y2) fun r6 =>
    some (.inl ((IntKind.wrap .i64 (x29 + 1)), r6))
  else
    Option.map (fun o => .inr o) (S_page_Encode_1 b0 b1)

theorem e_page_Encode_0 {x28 : Vector T_api_Cell 16} {b0 : T_api_Page} {x29 : Int} {b1 : T_page_builder} {o : ((Int × T_page_builder) ⊕ ((List UInt8) × Int))} (h : S_page_Encode_0 x28 b0 x29 b1 = some o) :
    rk (tabOf p) f_page_Encode 0 [.lo 2 [1, 4, 5, 28, 29] c_page_Encode_0, .bl 1, .td 2 [1, 2, 3, 4], .sq (.keep [1, 4] c_page_Encode_1)] (X (tabOf p) c_page_Encode_0 ⟨[(1, .ptr 0 0), (4, .ptr 1 0), (5, .fn i_page_builder_cell [.ptr 1 0] []), (28, .data ((e_ar e_api_Cell) x28)), (29, .p (.i .i64 x29))], [.box (List.map AV.p (e_api_Page b0)), .box (List.map AV.p (e_page_builder b1))]⟩) = (d_page_Encode_0 p x28 b0) o := by
  unfold S_page_Encode_0 at h
  rcases ite_inv h with ⟨h1, h⟩ | ⟨h1, h⟩
  · obtain ⟨y2, h3, h⟩ := Option.bind_eq_some_iff.1 h
    have f4 : (0 ≤ (x29 : Int) ∧ (x29 : Int) < ((16 : Nat) : Int)) = True := eq_true (vget_iff h3).1
    have f5 : sub (e_ar e_api_Cell x28) (Int.toNat x29 * 2) 2 = some (e_api_Cell y2) := ar_sub len_api_Cell (vget_iff h3).2
    try simp only [Nf, U_page_builder] at f5
    obtain ⟨r6, h7, h⟩ := Option.bind_eq_some_iff.1 h
    have f8 : ∀ ws new s, boxesAt ws s [1] [List.map AV.p (e_page_builder b1)] → (callR2 (AF (tabOf p)) i_page_builder_cell ([.ptr 1 0, .data (e_api_Cell y2)], ws) 0 new).run s = some ⟨.tup [], ws ++ [(1, .box (List.map AV.p (e_page_builder r6)))]⟩ := callR2_ptrs (args' := [.ptr 0 0, .data (e_api_Cell y2)]) (bs := [1]) (css := [List.map AV.p (e_page_builder b1)]) (css' := [List.map AV.p (e_page_builder r6)]) rfl rfl rfl (by simp [allPlain, all_plain_mapp]) (e_page_builder_cell p h7) rfl rfl (by simp [allPlain, all_plain_mapp])
    try simp only [Nf, U_page_builder] at f8
    obtain rfl := Option.some.inj h
    simp only [↓Da1, ↓Da2, ↓Da3, Ua1, Ua2, Ua3, Ua4, Ua5, Ua6, Ua7, Ua8, Ua9, Ua10, Ua11, c_page_Encode_0, B_api_Cell, U_page_builder, h1, f4, f5, f8, ↓reduceIte, Nat.reduceEqDiff, Nat.reduceAdd, Nat.reduceLT, Nat.reduceMul]
    rfl
  · obtain ⟨o', h', rfl⟩ := Option.map_eq_some_iff.1 h
    simp only [↓Da1, ↓Da2, ↓Da3, Ua1, Ua2, Ua3, Ua4, Ua5, Ua6, Ua7, Ua8, Ua9, Ua10, Ua11, c_page_Encode_0, B_api_Cell, U_page_builder, h1, ↓reduceIte, Nat.reduceEqDiff, Nat.reduceAdd, Nat.reduceLT, Nat.reduceMul]
    have e0 := e_page_Encode_1 p h'
    exact e0


def W_page_Encode_0 (x28 : Vector T_api_Cell 16) (b0 : T_api_Page) (s : Int × T_page_builder) : Option ((List UInt8) × Int) :=
  whileO (fun s => S_page_Encode_0 x28 b0 s.1 s.2) s

theorem e_page_Encode_0_w {x28 : Vector T_api_Cell 16} {b0 : T_api_Page} {s : Int × T_page_builder} {o : (List UInt8) × Int} (h : W_page_Encode_0 x28 b0 s = some o) :
    rk (tabOf p) f_page_Encode 0 [.bl 1, .td 2 [1, 2, 3, 4], .sq (.keep [1, 4] c_page_Encode_1)] (X (tabOf p) (.lp 2 [1, 4, 5, 28, 29] c_page_Encode_0) ⟨[(1, .ptr 0 0), (4, .ptr 1 0), (5, .fn i_page_builder_cell [.ptr 1 0] []), (28, .data ((e_ar e_api_Cell) x28)), (29, .p (.i .i64 s.1))], [.box (List.map AV.p (e_api_Page b0)), .box (List.map AV.p (e_page_builder s.2))]⟩) = d_page_Encode o := by
  have h0 : whileO (fun s => S_page_Encode_0 x28 b0 s.1 s.2) s = some o := h
  exact while_ind (P := fun (s : Int × T_page_builder) (o : (List UInt8) × Int) => rk (tabOf p) f_page_Encode 0 [.bl 1, .td 2 [1, 2, 3, 4], .sq (.keep [1, 4] c_page_Encode_1)] (X (tabOf p) (.lp 2 [1, 4, 5, 28, 29] c_page_Encode_0) ⟨[(1, .ptr 0 0), (4, .ptr 1 0), (5, .fn i_page_builder_cell [.ptr 1 0] []), (28, .data ((e_ar e_api_Cell) x28)), (29, .p (.i .i64 s.1))], [.box (List.map AV.p (e_api_Page b0)), .box (List.map AV.p (e_page_builder s.2))]⟩) = d_page_Encode o) (fun s r hs => by rw [rk_lp]; exact e_page_Encode_0 p hs) (fun s s1 r hs ih => by rw [rk_lp]; exact (e_page_Encode_0 p hs).trans ih) h0

def S_page_Encode (x0 : T_api_Page) : Option ((List UInt8) × Int) :=
  Option.bind (S_page_placed x0) fun r1 =>
  if r1 then
    Option.bind (S_page_cells x0) fun r5 =>
    if r5 then
      Option.bind (S_codec_Put ([]) x0.LSN 8) fun r9 =>
      Option.bind (S_codec_Put r9 x0.ID 4) fun r13 =>
      W_page_Encode_0 x0.Cells x0 (0, (⟨r13⟩ : T_page_builder))
    else
      some (([] : List UInt8), 22)
  else
    some (([] : List UInt8), 1)

theorem e_page_Encode_top {x0 : T_api_Page} {o : (List UInt8) × Int} (h : S_page_Encode x0 = some o) :
    rk (tabOf p) f_page_Encode 0 [] (X (tabOf p) c_page_Encode ⟨[(0, .data (e_api_Page x0))], []⟩) = d_page_Encode o := by
  unfold S_page_Encode at h
  obtain ⟨r1, h2, h⟩ := Option.bind_eq_some_iff.1 h
  have f3 : ∀ ws new s, (callR2 (AF (tabOf p)) i_page_placed ([.data (e_api_Page x0)], ws) 0 new).run s = some ⟨.p (.b r1), ws⟩ := callR2_plain rfl (e_page_placed p h2) rfl
  try simp only [Nf, U_page_builder] at f3
  rcases ite_inv h with ⟨h4, h⟩ | ⟨h4, h⟩
  · obtain ⟨r5, h6, h⟩ := Option.bind_eq_some_iff.1 h
    have f7 : ∀ ws new s, (callR2 (AF (tabOf p)) i_page_cells ([.data (e_api_Page x0)], ws) 0 new).run s = some ⟨.p (.b r5), ws⟩ := callR2_plain rfl (e_page_cells p h6) rfl
    try simp only [Nf, U_page_builder] at f7
    rcases ite_inv h with ⟨h8, h⟩ | ⟨h8, h⟩
    · obtain ⟨r9, h10, h⟩ := Option.bind_eq_some_iff.1 h
      have f11 : ∀ ws new s, (callR2 (AF (tabOf p)) i_codec_Put ([.p (.s []), .p (.i .i64 x0.LSN), .p (.i .i64 8)], ws) 0 new).run s = some ⟨.p (.s r9), ws⟩ := callR2_plain rfl (e_codec_Put p h10) rfl
      try simp only [Nf, U_page_builder] at f11
      have f12 : ∀ ws k new s, blksOf ((callR2 (AF (tabOf p)) i_codec_Put ([.p (.s []), .p (.i .i64 x0.LSN), .p (.i .i64 8)], ws) k new).reads s) = [] := callR2_reads_plain rfl
      try simp only [Nf, U_page_builder] at f12
      obtain ⟨r13, h14, h⟩ := Option.bind_eq_some_iff.1 h
      have f15 : ∀ ws new s, (callR2 (AF (tabOf p)) i_codec_Put ([.p (.s r9), .p (.i .i64 x0.ID), .p (.i .i64 4)], ws) 0 new).run s = some ⟨.p (.s r13), ws⟩ := callR2_plain rfl (e_codec_Put p h14) rfl
      try simp only [Nf, U_page_builder] at f15
      have f16 : ∀ ws k new s, blksOf ((callR2 (AF (tabOf p)) i_codec_Put ([.p (.s r9), .p (.i .i64 x0.ID), .p (.i .i64 4)], ws) k new).reads s) = [] := callR2_reads_plain rfl
      try simp only [Nf, U_page_builder] at f16
      simp only [↓Da1, ↓Da2, ↓Da3, Ua1, Ua2, Ua3, Ua4, Ua5, Ua6, Ua7, Ua8, Ua9, Ua10, Ua11, Ra1, Ra2, c_page_Encode, B_api_Cell, B_ar_eareapiCell16, B_api_Page, U_page_builder, f3, h4, f7, h8, f11, f12, f15, f16, ↓reduceIte, Nat.reduceEqDiff, Nat.reduceAdd, Nat.reduceLT, Nat.reduceMul, Nat.reduceBEq]
      have e0 := e_page_Encode_0_w p h
      exact e0
    · obtain rfl := Option.some.inj h
      simp only [↓Da1, ↓Da2, ↓Da3, Ua1, Ua2, Ua3, Ua4, Ua5, Ua6, Ua7, Ua8, Ua9, Ua10, Ua11, Ra1, Ra2, c_page_Encode, B_api_Cell, B_ar_eareapiCell16, B_api_Page, U_page_builder, f3, h4, f7, h8, z_page_Encode, ↓reduceIte, Nat.reduceEqDiff, Nat.reduceAdd, Nat.reduceLT, Nat.reduceMul, Nat.reduceBEq]
      rfl
  · obtain rfl := Option.some.inj h
    simp only [↓Da1, ↓Da2, ↓Da3, Ua1, Ua2, Ua3, Ua4, Ua5, Ua6, Ua7, Ua8, Ua9, Ua10, Ua11, Ra1, Ra2, c_page_Encode, B_api_Cell, B_ar_eareapiCell16, B_api_Page, U_page_builder, f3, h4, z_page_Encode, ↓reduceIte, Nat.reduceEqDiff, Nat.reduceAdd, Nat.reduceLT, Nat.reduceMul, Nat.reduceBEq]
    rfl


theorem e_page_Encode {x0 : T_api_Page} {o : (List UInt8) × Int} (h : S_page_Encode x0 = some o) : AF (tabOf p) i_page_Encode [.data (e_api_Page x0)] [] = d_page_Encode o :=
  (AF_rk (tabOf p) (t_page_Encode p) rfl).trans (e_page_Encode_top p h)

/-! pagemend/page.Decode -/

def d_page_Decode  (r : T_api_Page × Int) : Option Res := some (.tup [.data (e_api_Page r.1), .p (.i .i64 r.2)], [])

def S_page_Decode (x0 : List UInt8) : Option (T_api_Page × Int) :=
  if ((((List.length x0 : Nat) : Int) : Int) != 256) then
    some ((⟨0, 0, (Vector.replicate 16 (⟨false, []⟩ : T_api_Cell))⟩ : T_api_Page), 2)
  else
    Option.bind (S_page_Blank) fun r2 =>
    if (x0 == r2) then
      some ((⟨0, 0, (Vector.replicate 16 (⟨false, []⟩ : T_api_Cell))⟩ : T_api_Page), 7)
    else
      Option.bind (slcS x0 none (some 8)) fun m6 =>
      Option.bind (slcS x0 (some 248) none) fun m9 =>
      if (m6 == m9) then
        Option.bind (S_page_number x0 244 4) fun r13 =>
        Option.bind (slcS x0 none (some 244)) fun m16 =>
        Option.bind (S_codec_Sum m16) fun r19 =>
        if ((r13 : Int) != (IntKind.wrap .i64 r19)) then
          some ((⟨0, 0, (Vector.replicate 16 (⟨false, []⟩ : T_api_Cell))⟩ : T_api_Page), 3)
        else
          Option.bind (S_page_read x0) fun r23 =>
          Option.bind (S_page_Encode r23.1) fun r26 =>
          if r23.2 then
            if ((r26.2 : Int) != 0) then
              some ((⟨0, 0, (Vector.replicate 16 (⟨false, []⟩ : T_api_Cell))⟩ : T_api_Page), 4)
            else
              if (r26.1 == x0) then
                some (r23.1, 0)
              else
                some ((⟨0, 0, (Vector.replicate 16 (⟨false, []⟩ : T_api_Cell))⟩ : T_api_Page), 4)
          else
            some ((⟨0, 0, (Vector.replicate 16 (⟨false, []⟩ : T_api_Cell))⟩ : T_api_Page), 4)
      else
        some ((⟨0, 0, (Vector.replicate 16 (⟨false, []⟩ : T_api_Cell))⟩ : T_api_Page), 27)

theorem e_page_Decode_top {x0 : List UInt8} {o : T_api_Page × Int} (h : S_page_Decode x0 = some o) :
    rk (tabOf p) f_page_Decode 0 [] (X (tabOf p) c_page_Decode ⟨[(0, .p (.s x0))], []⟩) = d_page_Decode o := by
  unfold S_page_Decode at h
  rcases ite_inv h with ⟨h1, h⟩ | ⟨h1, h⟩
  · obtain rfl := Option.some.inj h
    simp only [↓Da1, ↓Da2, ↓Da3, Ua1, Ua2, Ua3, Ua4, Ua5, Ua6, Ua7, Ua8, Ua9, Ua10, Ua11, c_page_Decode, B_api_Cell, B_ar_eareapiCell16, B_api_Page, h1, z_page_Decode, ↓reduceIte, Nat.reduceEqDiff, Nat.reduceAdd, Nat.reduceLT, Nat.reduceMul]
    rfl
  · obtain ⟨r2, h3, h⟩ := Option.bind_eq_some_iff.1 h
    have f4 : ∀ ws new s, (callR2 (AF (tabOf p)) i_page_Blank ([], ws) 0 new).run s = some ⟨.p (.s r2), ws⟩ := callR2_plain rfl (e_page_Blank p h3) rfl
    try simp only [Nf] at f4
    rcases ite_inv h with ⟨h5, h⟩ | ⟨h5, h⟩
    · obtain rfl := Option.some.inj h
      simp only [↓Da1, ↓Da2, ↓Da3, Ua1, Ua2, Ua3, Ua4, Ua5, Ua6, Ua7, Ua8, Ua9, Ua10, Ua11, c_page_Decode, B_api_Cell, B_ar_eareapiCell16, B_api_Page, h1, f4, h5, z_page_Decode, ↓reduceIte, Nat.reduceEqDiff, Nat.reduceAdd, Nat.reduceLT, Nat.reduceMul]
      rfl
    · obtain ⟨m6, h7, h⟩ := Option.bind_eq_some_iff.1 h
      have f8 : sliceS (.p (.s x0)) none (some (.p (.i .i64 8))) = some (.p (.s m6)) := sliceS_ok (k := .i64) (lo := none) (hi := (some 8)) h7
      try simp only [Nf] at f8
      obtain ⟨m9, h10, h⟩ := Option.bind_eq_some_iff.1 h
      have f11 : sliceS (.p (.s x0)) (some (.p (.i .i64 248))) none = some (.p (.s m9)) := sliceS_ok (k := .i64) (lo := (some 248)) (hi := none) h10
      try simp only [Nf] at f11
      rcases ite_inv h with ⟨h12, h⟩ | ⟨h12, h⟩
      · obtain ⟨r13, h14, h⟩ := Option.bind_eq_some_iff.1 h
        have f15 : ∀ ws new s, (callR2 (AF (tabOf p)) i_page_number ([.p (.s x0), .p (.i .i64 244), .p (.i .i64 4)], ws) 0 new).run s = some ⟨.p (.i .i64 r13), ws⟩ := callR2_plain rfl (e_page_number p h14) rfl
        try simp only [Nf] at f15
        obtain ⟨m16, h17, h⟩ := Option.bind_eq_some_iff.1 h
        have f18 : sliceS (.p (.s x0)) none (some (.p (.i .i64 244))) = some (.p (.s m16)) := sliceS_ok (k := .i64) (lo := none) (hi := (some 244)) h17
        try simp only [Nf] at f18
        obtain ⟨r19, h20, h⟩ := Option.bind_eq_some_iff.1 h
        have f21 : ∀ ws new s, (callR2 (AF (tabOf p)) i_codec_Sum ([.p (.s m16)], ws) 0 new).run s = some ⟨.p (.i .u32 r19), ws⟩ := callR2_plain rfl (e_codec_Sum p h20) rfl
        try simp only [Nf] at f21
        rcases ite_inv h with ⟨h22, h⟩ | ⟨h22, h⟩
        · obtain rfl := Option.some.inj h
          simp only [↓Da1, ↓Da2, ↓Da3, Ua1, Ua2, Ua3, Ua4, Ua5, Ua6, Ua7, Ua8, Ua9, Ua10, Ua11, c_page_Decode, B_api_Cell, B_ar_eareapiCell16, B_api_Page, h1, f4, h5, f8, f11, h12, f15, f18, f21, h22, z_page_Decode, ↓reduceIte, Nat.reduceEqDiff, Nat.reduceAdd, Nat.reduceLT, Nat.reduceMul]
          rfl
        · obtain ⟨r23, h24, h⟩ := Option.bind_eq_some_iff.1 h
          have f25 : ∀ ws new s, (callR2 (AF (tabOf p)) i_page_read ([.p (.s x0)], ws) 0 new).run s = some ⟨.tup [.data (e_api_Page r23.1), .p (.b r23.2)], ws⟩ := callR2_plain rfl (e_page_read p h24) rfl
          try simp only [Nf] at f25
          obtain ⟨r26, h27, h⟩ := Option.bind_eq_some_iff.1 h
          have f28 : ∀ ws new s, (callR2 (AF (tabOf p)) i_page_Encode ([.data (e_api_Page r23.1)], ws) 0 new).run s = some ⟨.tup [.p (.s r26.1), .p (.i .i64 r26.2)], ws⟩ := callR2_plain rfl (e_page_Encode p h27) rfl
          try simp only [Nf] at f28
          rcases ite_inv h with ⟨h29, h⟩ | ⟨h29, h⟩
          · rcases ite_inv h with ⟨h30, h⟩ | ⟨h30, h⟩
            · obtain rfl := Option.some.inj h
              simp only [↓Da1, ↓Da2, ↓Da3, Ua1, Ua2, Ua3, Ua4, Ua5, Ua6, Ua7, Ua8, Ua9, Ua10, Ua11, c_page_Decode, B_api_Cell, B_ar_eareapiCell16, B_api_Page, h1, f4, h5, f8, f11, h12, f15, f18, f21, h22, f25, f28, h29, h30, z_page_Decode, ↓reduceIte, Nat.reduceEqDiff, Nat.reduceAdd, Nat.reduceLT, Nat.reduceMul]
              rfl
            · rcases ite_inv h with ⟨h31, h⟩ | ⟨h31, h⟩
              · obtain rfl := Option.some.inj h
                simp only [↓Da1, ↓Da2, ↓Da3, Ua1, Ua2, Ua3, Ua4, Ua5, Ua6, Ua7, Ua8, Ua9, Ua10, Ua11, c_page_Decode, B_api_Cell, B_ar_eareapiCell16, B_api_Page, h1, f4, h5, f8, f11, h12, f15, f18, f21, h22, f25, f28, h29, h30, h31, z_page_Decode, ↓reduceIte, Nat.reduceEqDiff, Nat.reduceAdd, Nat.reduceLT, Nat.reduceMul]
                rfl
              · obtain rfl := Option.some.inj h
                simp only [↓Da1, ↓Da2, ↓Da3, Ua1, Ua2, Ua3, Ua4, Ua5, Ua6, Ua7, Ua8, Ua9, Ua10, Ua11, c_page_Decode, B_api_Cell, B_ar_eareapiCell16, B_api_Page, h1, f4, h5, f8, f11, h12, f15, f18, f21, h22, f25, f28, h29, h30, h31, z_page_Decode, ↓reduceIte, Nat.reduceEqDiff, Nat.reduceAdd, Nat.reduceLT, Nat.reduceMul]
                rfl
          · obtain rfl := Option.some.inj h
            simp only [↓Da1, ↓Da2, ↓Da3, Ua1, Ua2, Ua3, Ua4, Ua5, Ua6, Ua7, Ua8, Ua9, Ua10, Ua11, c_page_Decode, B_api_Cell, B_ar_eareapiCell16, B_api_Page, h1, f4, h5, f8, f11, h12, f15, f18, f21, h22, f25, f28, h29, z_page_Decode, ↓reduceIte, Nat.reduceEqDiff, Nat.reduceAdd, Nat.reduceLT, Nat.reduceMul]
            rfl
      · obtain rfl := Option.some.inj h
        simp only [↓Da1, ↓Da2, ↓Da3, Ua1, Ua2, Ua3, Ua4, Ua5, Ua6, Ua7, Ua8, Ua9, Ua10, Ua11, c_page_Decode, B_api_Cell, B_ar_eareapiCell16, B_api_Page, h1, f4, h5, f8, f11, h12, z_page_Decode, ↓reduceIte, Nat.reduceEqDiff, Nat.reduceAdd, Nat.reduceLT, Nat.reduceMul]
        rfl


theorem e_page_Decode {x0 : List UInt8} {o : T_api_Page × Int} (h : S_page_Decode x0 = some o) : AF (tabOf p) i_page_Decode [.p (.s x0)] [] = d_page_Decode o :=
  (AF_rk (tabOf p) (t_page_Decode p) rfl).trans (e_page_Decode_top p h)

/-! pagemend/page.Identify -/

def d_page_Identify  (r : T_api_Page × Int) : Option Res := some (.tup [.data (e_api_Page r.1), .p (.i .i64 r.2)], [])

def S_page_Identify (x0 : List UInt8) (x1 : Int) : Option (T_api_Page × Int) :=
  Option.bind (S_page_named x1) fun r1 =>
  if r1 then
    Option.bind (S_page_Decode x0) fun r5 =>
    if ((r5.2 : Int) == 7) then
      Option.bind (S_page_New x1) fun r9 =>
      some (r9, 0)
    else
      if ((r5.2 : Int) != 0) then
        some ((⟨0, 0, (Vector.replicate 16 (⟨false, []⟩ : T_api_Cell))⟩ : T_api_Page), r5.2)
      else
        if ((r5.1.ID : Int) != x1) then
          some ((⟨0, 0, (Vector.replicate 16 (⟨false, []⟩ : T_api_Cell))⟩ : T_api_Page), 6)
        else
          some (r5.1, 0)
  else
    some ((⟨0, 0, (Vector.replicate 16 (⟨false, []⟩ : T_api_Cell))⟩ : T_api_Page), 1)

theorem e_page_Identify_top {x0 : List UInt8} {x1 : Int} {o : T_api_Page × Int} (h : S_page_Identify x0 x1 = some o) :
    rk (tabOf p) f_page_Identify 0 [] (X (tabOf p) c_page_Identify ⟨[(0, .p (.s x0)), (1, .p (.i .i64 x1))], []⟩) = d_page_Identify o := by
  unfold S_page_Identify at h
  obtain ⟨r1, h2, h⟩ := Option.bind_eq_some_iff.1 h
  have f3 : ∀ ws new s, (callR2 (AF (tabOf p)) i_page_named ([.p (.i .i64 x1)], ws) 0 new).run s = some ⟨.p (.b r1), ws⟩ := callR2_plain rfl (e_page_named p h2) rfl
  try simp only [Nf] at f3
  rcases ite_inv h with ⟨h4, h⟩ | ⟨h4, h⟩
  · obtain ⟨r5, h6, h⟩ := Option.bind_eq_some_iff.1 h
    have f7 : ∀ ws new s, (callR2 (AF (tabOf p)) i_page_Decode ([.p (.s x0)], ws) 0 new).run s = some ⟨.tup [.data (e_api_Page r5.1), .p (.i .i64 r5.2)], ws⟩ := callR2_plain rfl (e_page_Decode p h6) rfl
    try simp only [Nf] at f7
    rcases ite_inv h with ⟨h8, h⟩ | ⟨h8, h⟩
    · obtain ⟨r9, h10, h⟩ := Option.bind_eq_some_iff.1 h
      have f11 : ∀ ws new s, (callR2 (AF (tabOf p)) i_page_New ([.p (.i .i64 x1)], ws) 0 new).run s = some ⟨.data (e_api_Page r9), ws⟩ := callR2_plain rfl (e_page_New p h10) rfl
      try simp only [Nf] at f11
      obtain rfl := Option.some.inj h
      simp only [↓Da1, ↓Da2, ↓Da3, Ua1, Ua2, Ua3, Ua4, Ua5, Ua6, Ua7, Ua8, Ua9, Ua10, Ua11, c_page_Identify, B_api_Cell, B_ar_eareapiCell16, B_api_Page, f3, h4, f7, h8, f11, z_page_Identify, ↓reduceIte, Nat.reduceEqDiff, Nat.reduceAdd, Nat.reduceLT, Nat.reduceMul]
      rfl
    · rcases ite_inv h with ⟨h12, h⟩ | ⟨h12, h⟩
      · obtain rfl := Option.some.inj h
        simp only [↓Da1, ↓Da2, ↓Da3, Ua1, Ua2, Ua3, Ua4, Ua5, Ua6, Ua7, Ua8, Ua9, Ua10, Ua11, c_page_Identify, B_api_Cell, B_ar_eareapiCell16, B_api_Page, f3, h4, f7, h8, h12, z_page_Identify, ↓reduceIte, Nat.reduceEqDiff, Nat.reduceAdd, Nat.reduceLT, Nat.reduceMul]
        rfl
      · rcases ite_inv h with ⟨h13, h⟩ | ⟨h13, h⟩
        · obtain rfl := Option.some.inj h
          simp only [↓Da1, ↓Da2, ↓Da3, Ua1, Ua2, Ua3, Ua4, Ua5, Ua6, Ua7, Ua8, Ua9, Ua10, Ua11, c_page_Identify, B_api_Cell, B_ar_eareapiCell16, B_api_Page, f3, h4, f7, h8, h12, h13, z_page_Identify, ↓reduceIte, Nat.reduceEqDiff, Nat.reduceAdd, Nat.reduceLT, Nat.reduceMul]
          rfl
        · obtain rfl := Option.some.inj h
          simp only [↓Da1, ↓Da2, ↓Da3, Ua1, Ua2, Ua3, Ua4, Ua5, Ua6, Ua7, Ua8, Ua9, Ua10, Ua11, c_page_Identify, B_api_Cell, B_ar_eareapiCell16, B_api_Page, f3, h4, f7, h8, h12, h13, z_page_Identify, ↓reduceIte, Nat.reduceEqDiff, Nat.reduceAdd, Nat.reduceLT, Nat.reduceMul]
          rfl
  · obtain rfl := Option.some.inj h
    simp only [↓Da1, ↓Da2, ↓Da3, Ua1, Ua2, Ua3, Ua4, Ua5, Ua6, Ua7, Ua8, Ua9, Ua10, Ua11, c_page_Identify, B_api_Cell, B_ar_eareapiCell16, B_api_Page, f3, h4, z_page_Identify, ↓reduceIte, Nat.reduceEqDiff, Nat.reduceAdd, Nat.reduceLT, Nat.reduceMul]
    rfl


theorem e_page_Identify {x0 : List UInt8} {x1 : Int} {o : T_api_Page × Int} (h : S_page_Identify x0 x1 = some o) : AF (tabOf p) i_page_Identify [.p (.s x0), .p (.i .i64 x1)] [] = d_page_Identify o :=
  (AF_rk (tabOf p) (t_page_Identify p) rfl).trans (e_page_Identify_top p h)

/-! pagemend/pagemendlaw02.awake -/

def d_law02_awake  (r : Bool) : Option Res := some (.p (.b r), [])

def S_law02_awake  : Option (Bool) :=
  Option.bind (S_page_New 3) fun r1 =>
  Option.bind (S_page_Encode r1) fun r4 =>
  if ((r4.2 : Int) == 0) then
    if ((((List.length r4.1 : Nat) : Int) : Int) == 256) then
      Option.bind (sidS r4.1 8) fun c9 =>
      some ((c9 : Int) == 3)
    else
      some false
  else
    some false

theorem e_law02_awake_top  {o : Bool} (h : S_law02_awake = some o) :
    rk (tabOf p) f_law02_awake 0 [] (X (tabOf p) c_law02_awake ⟨[], []⟩) = d_law02_awake o := by
  unfold S_law02_awake at h
  obtain ⟨r1, h2, h⟩ := Option.bind_eq_some_iff.1 h
  have f3 : ∀ ws new s, (callR2 (AF (tabOf p)) i_page_New ([.p (.i .i64 3)], ws) 0 new).run s = some ⟨.data (e_api_Page r1), ws⟩ := callR2_plain rfl (e_page_New p h2) rfl
  try simp only [Nf] at f3
  obtain ⟨r4, h5, h⟩ := Option.bind_eq_some_iff.1 h
  have f6 : ∀ ws new s, (callR2 (AF (tabOf p)) i_page_Encode ([.data (e_api_Page r1)], ws) 0 new).run s = some ⟨.tup [.p (.s r4.1), .p (.i .i64 r4.2)], ws⟩ := callR2_plain rfl (e_page_Encode p h5) rfl
  try simp only [Nf] at f6
  rcases ite_inv h with ⟨h7, h⟩ | ⟨h7, h⟩
  · rcases ite_inv h with ⟨h8, h⟩ | ⟨h8, h⟩
    · obtain ⟨c9, h10, h⟩ := Option.bind_eq_some_iff.1 h
      obtain rfl := Option.some.inj h
      simp only [↓Da1, ↓Da2, ↓Da3, Ua1, Ua2, Ua3, Ua4, Ua5, Ua6, Ua7, Ua8, Ua9, Ua10, Ua11, c_law02_awake, B_api_Cell, B_ar_eareapiCell16, B_api_Page, f3, f6, h7, h8, h10, z_law02_awake, ↓reduceIte, Nat.reduceEqDiff, Nat.reduceAdd, Nat.reduceLT, Nat.reduceMul]
      rfl
    · obtain rfl := Option.some.inj h
      simp only [↓Da1, ↓Da2, ↓Da3, Ua1, Ua2, Ua3, Ua4, Ua5, Ua6, Ua7, Ua8, Ua9, Ua10, Ua11, c_law02_awake, B_api_Cell, B_ar_eareapiCell16, B_api_Page, f3, f6, h7, h8, z_law02_awake, ↓reduceIte, Nat.reduceEqDiff, Nat.reduceAdd, Nat.reduceLT, Nat.reduceMul]
      rfl
  · obtain rfl := Option.some.inj h
    simp only [↓Da1, ↓Da2, ↓Da3, Ua1, Ua2, Ua3, Ua4, Ua5, Ua6, Ua7, Ua8, Ua9, Ua10, Ua11, c_law02_awake, B_api_Cell, B_ar_eareapiCell16, B_api_Page, f3, f6, h7, z_law02_awake, ↓reduceIte, Nat.reduceEqDiff, Nat.reduceAdd, Nat.reduceLT, Nat.reduceMul]
    rfl


theorem e_law02_awake  {o : Bool} (h : S_law02_awake = some o) : AF (tabOf p) i_law02_awake [] [] = d_law02_awake o :=
  (AF_rk (tabOf p) (t_law02_awake p) rfl).trans (e_law02_awake_top p h)

/-! pagemend/pagemendlaw02.PageTears -/

def d_law02_PageTears  (r : Bool) : Option Res := some (.p (.b r), [])

def d_law02_PageTears_0 (x8 : Int) (x11 : List UInt8) (x13 : List UInt8) (x87 : List (List UInt8)) (x88 : Int) (B0 : List PV) (B1 : List PV) (B2 : List PV) (o : (Int) ⊕ (Bool)) : Option Res := match o with
  | .inl s => rk (tabOf p) f_law02_PageTears 0 [.bl 0, .td 3 [6], .sq (.keep [] c_law02_PageTears_1)] (X (tabOf p) (.lp 3 [8, 11, 13, 87, 88, 89] c_law02_PageTears_0) ⟨[(8, .p (.i .i64 x8)), (11, .p (.s x11)), (13, .p (.s x13)), (87, .p (.sl 1 (List.map r_s x87))), (88, .p (.i .i64 x88)), (89, .p (.i .i64 s))], [.box (List.map AV.p B0), .box (List.map AV.p B1), .box (List.map AV.p B2)]⟩)
  | .inr o => d_law02_PageTears o

def S_law02_PageTears_1  : Option (Bool) :=
  some true

theorem e_law02_PageTears_1 {B0 : List PV} {B1 : List PV} {B2 : List PV} {o : Bool} (h : S_law02_PageTears_1 = some o) :
    rk (tabOf p) f_law02_PageTears 0 [] (X (tabOf p) c_law02_PageTears_1 ⟨[], [.box (List.map AV.p B0), .box (List.map AV.p B1), .box (List.map AV.p B2)]⟩) = d_law02_PageTears o := by
  unfold S_law02_PageTears_1 at h
  obtain rfl := Option.some.inj h
  simp only [↓Da1, ↓Da2, ↓Da3, Ua1, Ua2, Ua3, Ua4, Ua5, Ua6, Ua7, Ua8, Ua9, Ua10, Ua11, c_law02_PageTears_1, z_law02_PageTears, ↓reduceIte, Nat.reduceEqDiff, Nat.reduceAdd, Nat.reduceLT, Nat.reduceMul]
  rfl


def S_law02_PageTears_0 (x8 : Int) (x11 : List UInt8) (x13 : List UInt8) (x87 : List (List UInt8)) (x88 : Int) (x89 : Int) : Option (((Int) ⊕ (Bool))) :=
  if (decide (x89 < x88)) then
    Option.bind (idx x87 x89) fun y2 =>
    Option.bind (S_page_Identify y2 x8) fun r5 =>
    if ((r5.2 : Int) == 0) then
      if (y2 == x11) then
        if ((r5.1.ID : Int) != x8) then
          some (.inr false)
        else
          some (.inl (IntKind.wrap .i64 (x89 + 1)))
      else
        if (y2 == x13) then
          if ((r5.1.ID : Int) != x8) then
            some (.inr false)
          else
            some (.inl (IntKind.wrap .i64 (x89 + 1)))
        else
          some (.inr false)
    else
      some (.inl (IntKind.wrap .i64 (x89 + 1)))
  else
    Option.map (fun o => .inr o) (S_law02_PageTears_1)

theorem e_law02_PageTears_0 {x8 : Int} {x11 : List UInt8} {x13 : List UInt8} {x87 : List (List UInt8)} {x88 : Int} {x89 : Int} {B0 : List PV} {B1 : List PV} {B2 : List PV} {o : ((Int) ⊕ (Bool))} (h : S_law02_PageTears_0 x8 x11 x13 x87 x88 x89 = some o) :
    rk (tabOf p) f_law02_PageTears 0 [.lo 3 [8, 11, 13, 87, 88, 89] c_law02_PageTears_0, .bl 0, .td 3 [6], .sq (.keep [] c_law02_PageTears_1)] (X (tabOf p) c_law02_PageTears_0 ⟨[(8, .p (.i .i64 x8)), (11, .p (.s x11)), (13, .p (.s x13)), (87, .p (.sl 1 (List.map r_s x87))), (88, .p (.i .i64 x88)), (89, .p (.i .i64 x89))], [.box (List.map AV.p B0), .box (List.map AV.p B1), .box (List.map AV.p B2)]⟩) = (d_law02_PageTears_0 p x8 x11 x13 x87 x88 B0 B1 B2) o := by
  unfold S_law02_PageTears_0 at h
  rcases ite_inv h with ⟨h1, h⟩ | ⟨h1, h⟩
  · obtain ⟨y2, h3, h⟩ := Option.bind_eq_some_iff.1 h
    have f4 := rowAt_idx (r := r_s) h3
    try simp only [Nf] at f4
    obtain ⟨r5, h6, h⟩ := Option.bind_eq_some_iff.1 h
    have f7 : ∀ ws new s, (callR2 (AF (tabOf p)) i_page_Identify ([.p (.s y2), .p (.i .i64 x8)], ws) 0 new).run s = some ⟨.tup [.data (e_api_Page r5.1), .p (.i .i64 r5.2)], ws⟩ := callR2_plain rfl (e_page_Identify p h6) rfl
    try simp only [Nf] at f7
    rcases ite_inv h with ⟨h8, h⟩ | ⟨h8, h⟩
    · rcases ite_inv h with ⟨h9, h⟩ | ⟨h9, h⟩
      · rcases ite_inv h with ⟨h10, h⟩ | ⟨h10, h⟩
        · obtain rfl := Option.some.inj h
          simp only [↓Da1, ↓Da2, ↓Da3, Ua1, Ua2, Ua3, Ua4, Ua5, Ua6, Ua7, Ua8, Ua9, Ua10, Ua11, c_law02_PageTears_0, B_api_Cell, B_ar_eareapiCell16, B_api_Page, h1, f4, f7, h8, h9, h10, z_law02_PageTears, ↓reduceIte, Nat.reduceEqDiff, Nat.reduceAdd, Nat.reduceLT, Nat.reduceMul]
          rfl
        · obtain rfl := Option.some.inj h
          simp only [↓Da1, ↓Da2, ↓Da3, Ua1, Ua2, Ua3, Ua4, Ua5, Ua6, Ua7, Ua8, Ua9, Ua10, Ua11, c_law02_PageTears_0, B_api_Cell, B_ar_eareapiCell16, B_api_Page, h1, f4, f7, h8, h9, h10, ↓reduceIte, Nat.reduceEqDiff, Nat.reduceAdd, Nat.reduceLT, Nat.reduceMul]
          rfl
      · rcases ite_inv h with ⟨h11, h⟩ | ⟨h11, h⟩
        · rcases ite_inv h with ⟨h12, h⟩ | ⟨h12, h⟩
          · obtain rfl := Option.some.inj h
            simp only [↓Da1, ↓Da2, ↓Da3, Ua1, Ua2, Ua3, Ua4, Ua5, Ua6, Ua7, Ua8, Ua9, Ua10, Ua11, c_law02_PageTears_0, B_api_Cell, B_ar_eareapiCell16, B_api_Page, h1, f4, f7, h8, h9, h11, h12, z_law02_PageTears, ↓reduceIte, Nat.reduceEqDiff, Nat.reduceAdd, Nat.reduceLT, Nat.reduceMul]
            rfl
          · obtain rfl := Option.some.inj h
            simp only [↓Da1, ↓Da2, ↓Da3, Ua1, Ua2, Ua3, Ua4, Ua5, Ua6, Ua7, Ua8, Ua9, Ua10, Ua11, c_law02_PageTears_0, B_api_Cell, B_ar_eareapiCell16, B_api_Page, h1, f4, f7, h8, h9, h11, h12, ↓reduceIte, Nat.reduceEqDiff, Nat.reduceAdd, Nat.reduceLT, Nat.reduceMul]
            rfl
        · obtain rfl := Option.some.inj h
          simp only [↓Da1, ↓Da2, ↓Da3, Ua1, Ua2, Ua3, Ua4, Ua5, Ua6, Ua7, Ua8, Ua9, Ua10, Ua11, c_law02_PageTears_0, B_api_Cell, B_ar_eareapiCell16, B_api_Page, h1, f4, f7, h8, h9, h11, z_law02_PageTears, ↓reduceIte, Nat.reduceEqDiff, Nat.reduceAdd, Nat.reduceLT, Nat.reduceMul]
          rfl
    · obtain rfl := Option.some.inj h
      simp only [↓Da1, ↓Da2, ↓Da3, Ua1, Ua2, Ua3, Ua4, Ua5, Ua6, Ua7, Ua8, Ua9, Ua10, Ua11, c_law02_PageTears_0, B_api_Cell, B_ar_eareapiCell16, B_api_Page, h1, f4, f7, h8, ↓reduceIte, Nat.reduceEqDiff, Nat.reduceAdd, Nat.reduceLT, Nat.reduceMul]
      rfl
  · obtain ⟨o', h', rfl⟩ := Option.map_eq_some_iff.1 h
    simp only [↓Da1, ↓Da2, ↓Da3, Ua1, Ua2, Ua3, Ua4, Ua5, Ua6, Ua7, Ua8, Ua9, Ua10, Ua11, c_law02_PageTears_0, B_api_Cell, B_ar_eareapiCell16, B_api_Page, h1, ↓reduceIte, Nat.reduceEqDiff, Nat.reduceAdd, Nat.reduceLT, Nat.reduceMul]
    have e0 := e_law02_PageTears_1 p (B0 := B0) (B1 := B1) (B2 := B2) h'
    exact e0


def W_law02_PageTears_0 (x8 : Int) (x11 : List UInt8) (x13 : List UInt8) (x87 : List (List UInt8)) (x88 : Int) (s : Int) : Option (Bool) :=
  whileO (fun s => S_law02_PageTears_0 x8 x11 x13 x87 x88 s) s

theorem e_law02_PageTears_0_w {x8 : Int} {x11 : List UInt8} {x13 : List UInt8} {x87 : List (List UInt8)} {x88 : Int} {B0 : List PV} {B1 : List PV} {B2 : List PV} {s : Int} {o : Bool} (h : W_law02_PageTears_0 x8 x11 x13 x87 x88 s = some o) :
    rk (tabOf p) f_law02_PageTears 0 [.bl 0, .td 3 [6], .sq (.keep [] c_law02_PageTears_1)] (X (tabOf p) (.lp 3 [8, 11, 13, 87, 88, 89] c_law02_PageTears_0) ⟨[(8, .p (.i .i64 x8)), (11, .p (.s x11)), (13, .p (.s x13)), (87, .p (.sl 1 (List.map r_s x87))), (88, .p (.i .i64 x88)), (89, .p (.i .i64 s))], [.box (List.map AV.p B0), .box (List.map AV.p B1), .box (List.map AV.p B2)]⟩) = d_law02_PageTears o := by
  have h0 : whileO (fun s => S_law02_PageTears_0 x8 x11 x13 x87 x88 s) s = some o := h
  exact while_ind (P := fun (s : Int) (o : Bool) => rk (tabOf p) f_law02_PageTears 0 [.bl 0, .td 3 [6], .sq (.keep [] c_law02_PageTears_1)] (X (tabOf p) (.lp 3 [8, 11, 13, 87, 88, 89] c_law02_PageTears_0) ⟨[(8, .p (.i .i64 x8)), (11, .p (.s x11)), (13, .p (.s x13)), (87, .p (.sl 1 (List.map r_s x87))), (88, .p (.i .i64 x88)), (89, .p (.i .i64 s))], [.box (List.map AV.p B0), .box (List.map AV.p B1), .box (List.map AV.p B2)]⟩) = d_law02_PageTears o) (fun s r hs => by rw [rk_lp]; exact e_law02_PageTears_0 p hs) (fun s s1 r hs ih => by rw [rk_lp]; exact (e_law02_PageTears_0 p hs).trans ih) h0

def S_law02_PageTears_2 (x1 : Int) (x8 : Int) (x11 : List UInt8) (x12 : Int) (x13 : List UInt8) (x14 : Int) : Option (Bool) :=
  if ((x12 : Int) != 0) then
    some false
  else
    if ((x14 : Int) != 0) then
      some false
    else
      if ((((List.length x11 : Nat) : Int) : Int) != 256) then
        some false
      else
        if ((((List.length x13 : Nat) : Int) : Int) != 256) then
          some false
        else
          Option.bind (remS (IntKind.wrap .i64 x1) 257) fun q5 =>
          Option.bind (slcS x11 none (some q5)) fun m7 =>
          Option.bind (slcS x13 (some q5) none) fun m10 =>
          Option.bind (catS m7 m10) fun s13 =>
          Option.bind (slcS x13 none (some q5)) fun m15 =>
          Option.bind (slcS x11 (some q5) none) fun m18 =>
          Option.bind (catS m15 m18) fun s21 =>
          W_law02_PageTears_0 x8 x11 x13 ([s13, s21] : List (List UInt8)) ((List.length ([s13, s21] : List (List UInt8)) : Nat) : Int) 0

theorem e_law02_PageTears_2 {x1 : Int} {x8 : Int} {x11 : List UInt8} {x12 : Int} {x13 : List UInt8} {x14 : Int} {B0 : List PV} {B1 : List PV} {B2 : List PV} {o : Bool} (h : S_law02_PageTears_2 x1 x8 x11 x12 x13 x14 = some o) :
    rk (tabOf p) f_law02_PageTears 0 [] (X (tabOf p) c_law02_PageTears_2 ⟨[(1, .p (.i .u16 x1)), (8, .p (.i .i64 x8)), (11, .p (.s x11)), (12, .p (.i .i64 x12)), (13, .p (.s x13)), (14, .p (.i .i64 x14))], [.box (List.map AV.p B0), .box (List.map AV.p B1), .box (List.map AV.p B2)]⟩) = d_law02_PageTears o := by
  unfold S_law02_PageTears_2 at h
  rcases ite_inv h with ⟨h1, h⟩ | ⟨h1, h⟩
  · obtain rfl := Option.some.inj h
    simp only [↓Da1, ↓Da2, ↓Da3, Ua1, Ua2, Ua3, Ua4, Ua5, Ua6, Ua7, Ua8, Ua9, Ua10, Ua11, c_law02_PageTears_2, h1, z_law02_PageTears, ↓reduceIte, Nat.reduceEqDiff, Nat.reduceAdd, Nat.reduceLT, Nat.reduceMul]
    rfl
  · rcases ite_inv h with ⟨h2, h⟩ | ⟨h2, h⟩
    · obtain rfl := Option.some.inj h
      simp only [↓Da1, ↓Da2, ↓Da3, Ua1, Ua2, Ua3, Ua4, Ua5, Ua6, Ua7, Ua8, Ua9, Ua10, Ua11, c_law02_PageTears_2, h1, h2, z_law02_PageTears, ↓reduceIte, Nat.reduceEqDiff, Nat.reduceAdd, Nat.reduceLT, Nat.reduceMul]
      rfl
    · rcases ite_inv h with ⟨h3, h⟩ | ⟨h3, h⟩
      · obtain rfl := Option.some.inj h
        simp only [↓Da1, ↓Da2, ↓Da3, Ua1, Ua2, Ua3, Ua4, Ua5, Ua6, Ua7, Ua8, Ua9, Ua10, Ua11, c_law02_PageTears_2, h1, h2, h3, z_law02_PageTears, ↓reduceIte, Nat.reduceEqDiff, Nat.reduceAdd, Nat.reduceLT, Nat.reduceMul]
        rfl
      · rcases ite_inv h with ⟨h4, h⟩ | ⟨h4, h⟩
        · obtain rfl := Option.some.inj h
          simp only [↓Da1, ↓Da2, ↓Da3, Ua1, Ua2, Ua3, Ua4, Ua5, Ua6, Ua7, Ua8, Ua9, Ua10, Ua11, c_law02_PageTears_2, h1, h2, h3, h4, z_law02_PageTears, ↓reduceIte, Nat.reduceEqDiff, Nat.reduceAdd, Nat.reduceLT, Nat.reduceMul]
          rfl
        · obtain ⟨q5, h6, h⟩ := Option.bind_eq_some_iff.1 h
          obtain ⟨m7, h8, h⟩ := Option.bind_eq_some_iff.1 h
          have f9 : sliceS (.p (.s x11)) none (some (.p (.i .i64 q5))) = some (.p (.s m7)) := sliceS_ok (k := .i64) (lo := none) (hi := (some q5)) h8
          try simp only [Nf] at f9
          obtain ⟨m10, h11, h⟩ := Option.bind_eq_some_iff.1 h
          have f12 : sliceS (.p (.s x13)) (some (.p (.i .i64 q5))) none = some (.p (.s m10)) := sliceS_ok (k := .i64) (lo := (some q5)) (hi := none) h11
          try simp only [Nf] at f12
          obtain ⟨s13, h14, h⟩ := Option.bind_eq_some_iff.1 h
          obtain ⟨m15, h16, h⟩ := Option.bind_eq_some_iff.1 h
          have f17 : sliceS (.p (.s x13)) none (some (.p (.i .i64 q5))) = some (.p (.s m15)) := sliceS_ok (k := .i64) (lo := none) (hi := (some q5)) h16
          try simp only [Nf] at f17
          obtain ⟨m18, h19, h⟩ := Option.bind_eq_some_iff.1 h
          have f20 : sliceS (.p (.s x11)) (some (.p (.i .i64 q5))) none = some (.p (.s m18)) := sliceS_ok (k := .i64) (lo := (some q5)) (hi := none) h19
          try simp only [Nf] at f20
          obtain ⟨s21, h22, h⟩ := Option.bind_eq_some_iff.1 h
          simp only [↓Da1, ↓Da2, ↓Da3, Ua1, Ua2, Ua3, Ua4, Ua5, Ua6, Ua7, Ua8, Ua9, Ua10, Ua11, c_law02_PageTears_2, h1, h2, h3, h4, h6, f9, f12, h14, f17, f20, h22, ↓reduceIte, Nat.reduceEqDiff, Nat.reduceAdd, Nat.reduceLT, Nat.reduceMul]
          have e0 := e_law02_PageTears_0_w p (B0 := B0) (B1 := B1) (B2 := B2) h
          exact e0


def S_law02_PageTears (x0 : List Int) (x1 : Int) (x2 : Bool) : Option (Bool) :=
  Option.bind (S_law02_awake) fun r1 =>
  if r1 then
    Option.bind (S_draw_New x0 200) fun r5 =>
    Option.bind (S_draw_Codes_Next r5 64) fun r8 =>
    Option.bind (S_draw_Codes_Page r8.2 r8.1) fun r11 =>
    Option.bind (S_draw_Codes_Page r11.2 r8.1) fun r14 =>
    if ((r11.1.LSN : Int) == r14.1.LSN) then
      some true
    else
      Option.bind (S_page_Encode r11.1) fun r18 =>
      Option.bind (S_page_Encode r14.1) fun r21 =>
      if x2 then
        if (decide (r14.1.LSN > 0)) then
          Option.bind (S_page_Blank) fun r26 =>
          S_law02_PageTears_2 x1 r8.1 r26 r18.2 r21.1 r21.2
        else
          S_law02_PageTears_2 x1 r8.1 r18.1 r18.2 r21.1 r21.2
      else
        S_law02_PageTears_2 x1 r8.1 r18.1 r18.2 r21.1 r21.2
  else
    some false

theorem e_law02_PageTears_top {x0 : List Int} {x1 : Int} {x2 : Bool} {o : Bool} (h : S_law02_PageTears x0 x1 x2 = some o) :
    rk (tabOf p) f_law02_PageTears 0 [] (X (tabOf p) c_law02_PageTears ⟨[(0, .p (.sl 1 (List.map (r_i .u8) x0))), (1, .p (.i .u16 x1)), (2, .p (.b x2))], []⟩) = d_law02_PageTears o := by
  unfold S_law02_PageTears at h
  obtain ⟨r1, h2, h⟩ := Option.bind_eq_some_iff.1 h
  have f3 : ∀ ws new s, (callR2 (AF (tabOf p)) i_law02_awake ([], ws) 0 new).run s = some ⟨.p (.b r1), ws⟩ := callR2_plain rfl (e_law02_awake p h2) rfl
  try simp only [Nf] at f3
  rcases ite_inv h with ⟨h4, h⟩ | ⟨h4, h⟩
  · obtain ⟨r5, h6, h⟩ := Option.bind_eq_some_iff.1 h
    have f7 : ∀ ws new s, (callR2 (AF (tabOf p)) i_draw_New ([.p (.sl 1 (List.map (r_i .u8) x0)), .p (.i .i64 200)], ws) 1 new).run s = some ⟨.ptr new 0, ws ++ [(new, .box (List.map AV.p (e_pagemenddraw_Codes r5)))]⟩ := callR2_new rfl (e_draw_New p h6) (all_plain_mapp _)
    try simp only [Nf] at f7
    obtain ⟨r8, h9, h⟩ := Option.bind_eq_some_iff.1 h
    have f10 : ∀ ws new s, boxesAt ws s [0] [List.map AV.p (e_pagemenddraw_Codes r5)] → (callR2 (AF (tabOf p)) i_draw_Codes_Next ([.ptr 0 0, .p (.i .i64 64)], ws) 0 new).run s = some ⟨.p (.i .i64 r8.1), ws ++ [(0, .box (List.map AV.p (e_pagemenddraw_Codes r8.2)))]⟩ := callR2_ptrs (args' := [.ptr 0 0, .p (.i .i64 64)]) (bs := [0]) (css := [List.map AV.p (e_pagemenddraw_Codes r5)]) (css' := [List.map AV.p (e_pagemenddraw_Codes r8.2)]) rfl rfl rfl (by simp [allPlain, all_plain_mapp]) (e_draw_Codes_Next p h9) rfl rfl (by simp [allPlain, all_plain_mapp])
    try simp only [Nf] at f10
    obtain ⟨r11, h12, h⟩ := Option.bind_eq_some_iff.1 h
    have f13 : ∀ ws new s, boxesAt ws s [0] [List.map AV.p (e_pagemenddraw_Codes r8.2)] → (callR2 (AF (tabOf p)) i_draw_Codes_Page ([.ptr 0 0, .p (.i .i64 r8.1)], ws) 0 new).run s = some ⟨.data (e_api_Page r11.1), ws ++ [(0, .box (List.map AV.p (e_pagemenddraw_Codes r11.2)))]⟩ := callR2_ptrs (args' := [.ptr 0 0, .p (.i .i64 r8.1)]) (bs := [0]) (css := [List.map AV.p (e_pagemenddraw_Codes r8.2)]) (css' := [List.map AV.p (e_pagemenddraw_Codes r11.2)]) rfl rfl rfl (by simp [allPlain, all_plain_mapp]) (e_draw_Codes_Page p h12) rfl rfl (by simp [allPlain, all_plain_mapp])
    try simp only [Nf] at f13
    obtain ⟨r14, h15, h⟩ := Option.bind_eq_some_iff.1 h
    have f16 : ∀ ws new s, boxesAt ws s [0] [List.map AV.p (e_pagemenddraw_Codes r11.2)] → (callR2 (AF (tabOf p)) i_draw_Codes_Page ([.ptr 0 0, .p (.i .i64 r8.1)], ws) 0 new).run s = some ⟨.data (e_api_Page r14.1), ws ++ [(0, .box (List.map AV.p (e_pagemenddraw_Codes r14.2)))]⟩ := callR2_ptrs (args' := [.ptr 0 0, .p (.i .i64 r8.1)]) (bs := [0]) (css := [List.map AV.p (e_pagemenddraw_Codes r11.2)]) (css' := [List.map AV.p (e_pagemenddraw_Codes r14.2)]) rfl rfl rfl (by simp [allPlain, all_plain_mapp]) (e_draw_Codes_Page p h15) rfl rfl (by simp [allPlain, all_plain_mapp])
    try simp only [Nf] at f16
    rcases ite_inv h with ⟨h17, h⟩ | ⟨h17, h⟩
    · obtain rfl := Option.some.inj h
      simp only [↓Da1, ↓Da2, ↓Da3, Ua1, Ua2, Ua3, Ua4, Ua5, Ua6, Ua7, Ua8, Ua9, Ua10, Ua11, c_law02_PageTears, B_api_Cell, B_ar_eareapiCell16, B_api_Page, B_pagemenddraw_Codes, f3, h4, f7, f10, f13, f16, h17, z_law02_PageTears, ↓reduceIte, Nat.reduceEqDiff, Nat.reduceAdd, Nat.reduceLT, Nat.reduceMul]
      rfl
    · obtain ⟨r18, h19, h⟩ := Option.bind_eq_some_iff.1 h
      have f20 : ∀ ws new s, (callR2 (AF (tabOf p)) i_page_Encode ([.data (e_api_Page r11.1)], ws) 0 new).run s = some ⟨.tup [.p (.s r18.1), .p (.i .i64 r18.2)], ws⟩ := callR2_plain rfl (e_page_Encode p h19) rfl
      try simp only [Nf] at f20
      obtain ⟨r21, h22, h⟩ := Option.bind_eq_some_iff.1 h
      have f23 : ∀ ws new s, (callR2 (AF (tabOf p)) i_page_Encode ([.data (e_api_Page r14.1)], ws) 0 new).run s = some ⟨.tup [.p (.s r21.1), .p (.i .i64 r21.2)], ws⟩ := callR2_plain rfl (e_page_Encode p h22) rfl
      try simp only [Nf] at f23
      rcases ite_inv h with ⟨h24, h⟩ | ⟨h24, h⟩
      · rcases ite_inv h with ⟨h25, h⟩ | ⟨h25, h⟩
        · obtain ⟨r26, h27, h⟩ := Option.bind_eq_some_iff.1 h
          have f28 : ∀ ws new s, (callR2 (AF (tabOf p)) i_page_Blank ([], ws) 0 new).run s = some ⟨.p (.s r26), ws⟩ := callR2_plain rfl (e_page_Blank p h27) rfl
          try simp only [Nf] at f28
          simp only [↓Da1, ↓Da2, ↓Da3, Ua1, Ua2, Ua3, Ua4, Ua5, Ua6, Ua7, Ua8, Ua9, Ua10, Ua11, c_law02_PageTears, B_api_Cell, B_ar_eareapiCell16, B_api_Page, B_pagemenddraw_Codes, f3, h4, f7, f10, f13, f16, h17, f20, f23, h24, h25, f28, ↓reduceIte, Nat.reduceEqDiff, Nat.reduceAdd, Nat.reduceLT, Nat.reduceMul]
          have e0 := e_law02_PageTears_2 p (B0 := (e_pagemenddraw_Codes r14.2)) (B1 := (e_api_Page r11.1)) (B2 := (e_api_Page r14.1)) h
          exact e0
        · simp only [↓Da1, ↓Da2, ↓Da3, Ua1, Ua2, Ua3, Ua4, Ua5, Ua6, Ua7, Ua8, Ua9, Ua10, Ua11, c_law02_PageTears, B_api_Cell, B_ar_eareapiCell16, B_api_Page, B_pagemenddraw_Codes, f3, h4, f7, f10, f13, f16, h17, f20, f23, h24, h25, ↓reduceIte, Nat.reduceEqDiff, Nat.reduceAdd, Nat.reduceLT, Nat.reduceMul]
          have e0 := e_law02_PageTears_2 p (B0 := (e_pagemenddraw_Codes r14.2)) (B1 := (e_api_Page r11.1)) (B2 := (e_api_Page r14.1)) h
          exact e0
      · simp only [↓Da1, ↓Da2, ↓Da3, Ua1, Ua2, Ua3, Ua4, Ua5, Ua6, Ua7, Ua8, Ua9, Ua10, Ua11, c_law02_PageTears, B_api_Cell, B_ar_eareapiCell16, B_api_Page, B_pagemenddraw_Codes, f3, h4, f7, f10, f13, f16, h17, f20, f23, h24, ↓reduceIte, Nat.reduceEqDiff, Nat.reduceAdd, Nat.reduceLT, Nat.reduceMul]
        have e0 := e_law02_PageTears_2 p (B0 := (e_pagemenddraw_Codes r14.2)) (B1 := (e_api_Page r11.1)) (B2 := (e_api_Page r14.1)) h
        exact e0
  · obtain rfl := Option.some.inj h
    simp only [↓Da1, ↓Da2, ↓Da3, Ua1, Ua2, Ua3, Ua4, Ua5, Ua6, Ua7, Ua8, Ua9, Ua10, Ua11, c_law02_PageTears, B_api_Cell, B_ar_eareapiCell16, B_api_Page, B_pagemenddraw_Codes, f3, h4, z_law02_PageTears, ↓reduceIte, Nat.reduceEqDiff, Nat.reduceAdd, Nat.reduceLT, Nat.reduceMul]
    rfl


theorem e_law02_PageTears {x0 : List Int} {x1 : Int} {x2 : Bool} {o : Bool} (h : S_law02_PageTears x0 x1 x2 = some o) : AF (tabOf p) i_law02_PageTears [.p (.sl 1 (List.map (r_i .u8) x0)), .p (.i .u16 x1), .p (.b x2)] [] = d_law02_PageTears o :=
  (AF_rk (tabOf p) (t_law02_PageTears p) rfl).trans (e_law02_PageTears_top p h)


end
end Go.Am
