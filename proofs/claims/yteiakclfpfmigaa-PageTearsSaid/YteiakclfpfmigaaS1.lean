/-
  What the functions do, with types; written by a program from the translation.
-/
import Derived.Test.YteiakclfpfmigaaFns
namespace Go.Am
set_option linter.unusedSimpArgs false
set_option linter.unusedVariables false

noncomputable section
variable (p : FuncId → Option (List AV → List Blk → Option Res))

/-! pagemend/pagemenddraw.New -/

def d_draw_New  (r : T_pagemenddraw_Codes) : Option Res := some (.ptr 0 0, [.box (List.map AV.p (e_pagemenddraw_Codes r))])

def S_draw_New_0 (x0 : List Int) : Option (T_pagemenddraw_Codes) :=
  some (⟨x0, 0⟩ : T_pagemenddraw_Codes)

theorem e_draw_New_0 {x0 : List Int} {o : T_pagemenddraw_Codes} (h : S_draw_New_0 x0 = some o) :
    rk (tabOf p) f_draw_New 0 [] (X (tabOf p) c_draw_New_0 ⟨[(0, .p (.sl 1 (List.map (r_i .u8) x0)))], []⟩) = d_draw_New o := by
  unfold S_draw_New_0 at h
  obtain rfl := Option.some.inj h
  simp only [↓Da1, ↓Da2, ↓Da3, Ua1, Ua2, Ua3, Ua4, Ua5, Ua6, Ua7, Ua8, Ua9, Ua10, Ua11, c_draw_New_0, B_pagemenddraw_Codes, z_draw_New, ↓reduceIte, Nat.reduceEqDiff, Nat.reduceAdd, Nat.reduceLT, Nat.reduceMul]
  rfl


def S_draw_New (x0 : List Int) (x1 : Int) : Option (T_pagemenddraw_Codes) :=
  if (decide (((List.length x0 : Nat) : Int) > x1)) then
    Option.bind (slcS x0 none (some x1)) fun m2 =>
    S_draw_New_0 m2
  else
    S_draw_New_0 x0

theorem e_draw_New_top {x0 : List Int} {x1 : Int} {o : T_pagemenddraw_Codes} (h : S_draw_New x0 x1 = some o) :
    rk (tabOf p) f_draw_New 0 [] (X (tabOf p) c_draw_New ⟨[(0, .p (.sl 1 (List.map (r_i .u8) x0))), (1, .p (.i .i64 x1))], []⟩) = d_draw_New o := by
  unfold S_draw_New at h
  rcases ite_inv h with ⟨h1, h⟩ | ⟨h1, h⟩
  · obtain ⟨m2, h3, h⟩ := Option.bind_eq_some_iff.1 h
    have f4 : sliceL 1 (.p (.sl 1 (List.map (r_i .u8) x0))) none (some (.p (.i .i64 x1))) = some (.p (.sl 1 (List.map (r_i .u8) m2))) := sliceL_ok (k := .i64) (lo := none) (hi := (some x1)) h3
    try simp only [Nf] at f4
    simp only [↓Da1, ↓Da2, ↓Da3, Ua1, Ua2, Ua3, Ua4, Ua5, Ua6, Ua7, Ua8, Ua9, Ua10, Ua11, c_draw_New, B_pagemenddraw_Codes, h1, f4, ↓reduceIte, Nat.reduceEqDiff, Nat.reduceAdd, Nat.reduceLT, Nat.reduceMul]
    have e0 := e_draw_New_0 p h
    exact e0
  · simp only [↓Da1, ↓Da2, ↓Da3, Ua1, Ua2, Ua3, Ua4, Ua5, Ua6, Ua7, Ua8, Ua9, Ua10, Ua11, c_draw_New, B_pagemenddraw_Codes, h1, ↓reduceIte, Nat.reduceEqDiff, Nat.reduceAdd, Nat.reduceLT, Nat.reduceMul]
    have e0 := e_draw_New_0 p h
    exact e0


theorem e_draw_New {x0 : List Int} {x1 : Int} {o : T_pagemenddraw_Codes} (h : S_draw_New x0 x1 = some o) : AF (tabOf p) i_draw_New [.p (.sl 1 (List.map (r_i .u8) x0)), .p (.i .i64 x1)] [] = d_draw_New o :=
  (AF_rk (tabOf p) (t_draw_New p) rfl).trans (e_draw_New_top p h)

/-! (*pagemend/pagemenddraw.Codes).Next -/

def d_draw_Codes_Next  (r : Int × T_pagemenddraw_Codes) : Option Res := some (.p (.i .i64 r.1), [.box (List.map AV.p (e_pagemenddraw_Codes r.2))])

def S_draw_Codes_Next_R (rec : T_pagemenddraw_Codes → Int → Option (Int × T_pagemenddraw_Codes)) (b0 : T_pagemenddraw_Codes) (x1 : Int) : Option (Int × T_pagemenddraw_Codes) :=
  if (decide (b0.at_ ≥ ((List.length b0.l_ : Nat) : Int))) then
    some (0, b0)
  else
    if (decide (x1 < 1)) then
      some (0, b0)
    else
      Option.bind (idx b0.l_ b0.at_) fun y3 =>
      if (decide (x1 > 256)) then
        Option.bind (rec (⟨b0.l_, (IntKind.wrap .i64 (b0.at_ + 1))⟩ : T_pagemenddraw_Codes) 256) fun r7 =>
        Option.bind (remS (IntKind.wrap .i64 ((IntKind.wrap .i64 (256 * (IntKind.wrap .i64 y3))) + r7.1)) x1) fun q10 =>
        some (q10, r7.2)
      else
        Option.bind (remS (IntKind.wrap .i64 y3) x1) fun q12 =>
        some (q12, (⟨b0.l_, (IntKind.wrap .i64 (b0.at_ + 1))⟩ : T_pagemenddraw_Codes))

theorem e_draw_Codes_Next_top {rec : T_pagemenddraw_Codes → Int → Option (Int × T_pagemenddraw_Codes)} (hrec : ∀ {b0 : T_pagemenddraw_Codes} {x1 : Int} {o : Int × T_pagemenddraw_Codes}, rec b0 x1 = some o → AF (tabOf p) i_draw_Codes_Next [.ptr 0 0, .p (.i .i64 x1)] [.box (List.map AV.p (e_pagemenddraw_Codes b0))] = d_draw_Codes_Next o) {b0 : T_pagemenddraw_Codes} {x1 : Int} {o : Int × T_pagemenddraw_Codes} (h : S_draw_Codes_Next_R rec b0 x1 = some o) :
    rk (tabOf p) f_draw_Codes_Next 1 [] (X (tabOf p) c_draw_Codes_Next ⟨[(0, .ptr 0 0), (1, .p (.i .i64 x1))], [.box (List.map AV.p (e_pagemenddraw_Codes b0))]⟩) = d_draw_Codes_Next o := by
  unfold S_draw_Codes_Next_R at h
  rcases ite_inv h with ⟨h1, h⟩ | ⟨h1, h⟩
  · obtain rfl := Option.some.inj h
    simp only [↓Da1, ↓Da2, ↓Da3, Ua1, Ua2, Ua3, Ua4, Ua5, Ua6, Ua7, Ua8, Ua9, Ua10, Ua11, c_draw_Codes_Next, B_pagemenddraw_Codes, h1, z_draw_Codes_Next, ↓reduceIte, Nat.reduceEqDiff, Nat.reduceAdd, Nat.reduceLT, Nat.reduceMul]
    rfl
  · rcases ite_inv h with ⟨h2, h⟩ | ⟨h2, h⟩
    · obtain rfl := Option.some.inj h
      simp only [↓Da1, ↓Da2, ↓Da3, Ua1, Ua2, Ua3, Ua4, Ua5, Ua6, Ua7, Ua8, Ua9, Ua10, Ua11, c_draw_Codes_Next, B_pagemenddraw_Codes, h1, h2, z_draw_Codes_Next, ↓reduceIte, Nat.reduceEqDiff, Nat.reduceAdd, Nat.reduceLT, Nat.reduceMul]
      rfl
    · obtain ⟨y3, h4, h⟩ := Option.bind_eq_some_iff.1 h
      have f5 := rowAt_idx (r := (r_i .u8)) h4
      try simp only [Nf] at f5
      rcases ite_inv h with ⟨h6, h⟩ | ⟨h6, h⟩
      · obtain ⟨r7, h8, h⟩ := Option.bind_eq_some_iff.1 h
        have f9 : ∀ ws new s, boxesAt ws s [0] [List.map AV.p (e_pagemenddraw_Codes (⟨b0.l_, (IntKind.wrap .i64 (b0.at_ + 1))⟩ : T_pagemenddraw_Codes))] → (callR2 (AF (tabOf p)) i_draw_Codes_Next ([.ptr 0 0, .p (.i .i64 256)], ws) 0 new).run s = some ⟨.p (.i .i64 r7.1), ws ++ [(0, .box (List.map AV.p (e_pagemenddraw_Codes r7.2)))]⟩ := callR2_ptrs (args' := [.ptr 0 0, .p (.i .i64 256)]) (bs := [0]) (css := [List.map AV.p (e_pagemenddraw_Codes (⟨b0.l_, (IntKind.wrap .i64 (b0.at_ + 1))⟩ : T_pagemenddraw_Codes))]) (css' := [List.map AV.p (e_pagemenddraw_Codes r7.2)]) rfl rfl rfl (by simp [allPlain, all_plain_mapp]) (hrec h8) rfl rfl (by simp [allPlain, all_plain_mapp])
        try simp only [Nf] at f9
        obtain ⟨q10, h11, h⟩ := Option.bind_eq_some_iff.1 h
        obtain rfl := Option.some.inj h
        simp only [↓Da1, ↓Da2, ↓Da3, Ua1, Ua2, Ua3, Ua4, Ua5, Ua6, Ua7, Ua8, Ua9, Ua10, Ua11, c_draw_Codes_Next, B_pagemenddraw_Codes, h1, h2, f5, h6, f9, h11, z_draw_Codes_Next, ↓reduceIte, Nat.reduceEqDiff, Nat.reduceAdd, Nat.reduceLT, Nat.reduceMul]
        rfl
      · obtain ⟨q12, h13, h⟩ := Option.bind_eq_some_iff.1 h
        obtain rfl := Option.some.inj h
        simp only [↓Da1, ↓Da2, ↓Da3, Ua1, Ua2, Ua3, Ua4, Ua5, Ua6, Ua7, Ua8, Ua9, Ua10, Ua11, c_draw_Codes_Next, B_pagemenddraw_Codes, h1, h2, f5, h6, h13, z_draw_Codes_Next, ↓reduceIte, Nat.reduceEqDiff, Nat.reduceAdd, Nat.reduceLT, Nat.reduceMul]
        rfl


def S_draw_Codes_Next_N : Nat → T_pagemenddraw_Codes → Int → Option (Int × T_pagemenddraw_Codes)
  | 0 => fun _ _ => none
  | n + 1 => S_draw_Codes_Next_R (S_draw_Codes_Next_N n)

def S_draw_Codes_Next : T_pagemenddraw_Codes → Int → Option (Int × T_pagemenddraw_Codes) := S_draw_Codes_Next_N 12

theorem e_draw_Codes_Next_N : ∀ n, ∀ {b0 : T_pagemenddraw_Codes} {x1 : Int} {o : Int × T_pagemenddraw_Codes}, S_draw_Codes_Next_N n b0 x1 = some o → AF (tabOf p) i_draw_Codes_Next [.ptr 0 0, .p (.i .i64 x1)] [.box (List.map AV.p (e_pagemenddraw_Codes b0))] = d_draw_Codes_Next o
  | 0 => fun h => by cases h
  | n + 1 => fun h => (AF_rk (tabOf p) (t_draw_Codes_Next p) rfl).trans (e_draw_Codes_Next_top p (e_draw_Codes_Next_N n) h)

theorem e_draw_Codes_Next {b0 : T_pagemenddraw_Codes} {x1 : Int} {o : Int × T_pagemenddraw_Codes} (h : S_draw_Codes_Next b0 x1 = some o) : AF (tabOf p) i_draw_Codes_Next [.ptr 0 0, .p (.i .i64 x1)] [.box (List.map AV.p (e_pagemenddraw_Codes b0))] = d_draw_Codes_Next o := e_draw_Codes_Next_N p 12 h

/-! pagemend/page.New -/

def d_page_New  (r : T_api_Page) : Option Res := some (.data (e_api_Page r), [])

def S_page_New (x0 : Int) : Option (T_api_Page) :=
  some (⟨x0, 0, (Vector.replicate 16 (⟨false, []⟩ : T_api_Cell))⟩ : T_api_Page)

theorem e_page_New_top {x0 : Int} {o : T_api_Page} (h : S_page_New x0 = some o) :
    rk (tabOf p) f_page_New 0 [] (X (tabOf p) c_page_New ⟨[(0, .p (.i .i64 x0))], []⟩) = d_page_New o := by
  unfold S_page_New at h
  obtain rfl := Option.some.inj h
  simp only [↓Da1, ↓Da2, ↓Da3, Ua1, Ua2, Ua3, Ua4, Ua5, Ua6, Ua7, Ua8, Ua9, Ua10, Ua11, c_page_New, B_api_Cell, B_ar_eareapiCell16, B_api_Page, z_page_New, ↓reduceIte, Nat.reduceEqDiff, Nat.reduceAdd, Nat.reduceLT, Nat.reduceMul]
  rfl


theorem e_page_New {x0 : Int} {o : T_api_Page} (h : S_page_New x0 = some o) : AF (tabOf p) i_page_New [.p (.i .i64 x0)] [] = d_page_New o :=
  (AF_rk (tabOf p) (t_page_New p) rfl).trans (e_page_New_top p h)

/-! (*pagemend/pagemenddraw.Codes).Data -/

def d_draw_Codes_Data  (r : (List UInt8) × T_pagemenddraw_Codes) : Option Res := some (.p (.s r.1), [.box (List.map AV.p (e_pagemenddraw_Codes r.2))])

def d_draw_Codes_Data_0 (x3 : Int) (w1 : Bool) (o : (Int × T_pagemenddraw_Codes × (List Int)) ⊕ ((List UInt8) × T_pagemenddraw_Codes)) : Option Res := match o with
  | .inl s => rk (tabOf p) f_draw_Codes_Data 1 [.bl 0, .sq (.keep [4] c_draw_Codes_Data_1)] (X (tabOf p) (.lp 2 [0, 3, 4, 5] c_draw_Codes_Data_0) ⟨[(0, .ptr 0 0), (3, .p (.i .i64 x3)), (4, .slr 1 0 (List.length s.2.2)), (5, .p (.i .i64 s.1))], [.box (List.map AV.p (e_pagemenddraw_Codes s.2.1)), .arr w1 1 (List.map (r_i .u8) s.2.2)]⟩)
  | .inr o => d_draw_Codes_Data o

def S_draw_Codes_Data_1 (b0 : T_pagemenddraw_Codes) (l1 : List Int) : Option ((List UInt8) × T_pagemenddraw_Codes) :=
  some ((toStr l1), b0)

theorem e_draw_Codes_Data_1 {b0 : T_pagemenddraw_Codes} {l1 : List Int} {w1 : Bool} {o : (List UInt8) × T_pagemenddraw_Codes} (h : S_draw_Codes_Data_1 b0 l1 = some o) :
    rk (tabOf p) f_draw_Codes_Data 1 [] (X (tabOf p) c_draw_Codes_Data_1 ⟨[(4, .slr 1 0 (List.length l1))], [.box (List.map AV.p (e_pagemenddraw_Codes b0)), .arr w1 1 (List.map (r_i .u8) l1)]⟩) = d_draw_Codes_Data o := by
  unfold S_draw_Codes_Data_1 at h
  obtain rfl := Option.some.inj h
  simp only [↓Da1, ↓Da2, ↓Da3, Ua1, Ua2, Ua3, Ua4, Ua5, Ua6, Ua7, Ua8, Ua9, Ua10, Ua11, c_draw_Codes_Data_1, z_draw_Codes_Data, ↓reduceIte, Nat.reduceEqDiff, Nat.reduceAdd, Nat.reduceLT, Nat.reduceMul]
  rfl


def S_draw_Codes_Data_0 (x3 : Int) (x5 : Int) (b0 : T_pagemenddraw_Codes) (l1 : List Int) : Option (((Int × T_pagemenddraw_Codes × (List Int)) ⊕ ((List UInt8) × T_pagemenddraw_Codes))) :=
  if (decide (x5 < x3)) then
    Option.bind (S_draw_Codes_Next b0 3) fun r2 =>
    Option.bind (appS 1 l1 ([(IntKind.wrap .u8 (IntKind.wrap .i64 (97 + r2.1)))] : List Int)) fun m5 =>
    some (.inl ((IntKind.wrap .i64 (x5 + 1)), r2.2, m5))
  else
    Option.map (fun o => .inr o) (S_draw_Codes_Data_1 b0 l1)

theorem e_draw_Codes_Data_0 {x3 : Int} {x5 : Int} {b0 : T_pagemenddraw_Codes} {l1 : List Int} {w1 : Bool} {o : ((Int × T_pagemenddraw_Codes × (List Int)) ⊕ ((List UInt8) × T_pagemenddraw_Codes))} (h : S_draw_Codes_Data_0 x3 x5 b0 l1 = some o) :
    rk (tabOf p) f_draw_Codes_Data 1 [.lo 2 [0, 3, 4, 5] c_draw_Codes_Data_0, .bl 0, .sq (.keep [4] c_draw_Codes_Data_1)] (X (tabOf p) c_draw_Codes_Data_0 ⟨[(0, .ptr 0 0), (3, .p (.i .i64 x3)), (4, .slr 1 0 (List.length l1)), (5, .p (.i .i64 x5))], [.box (List.map AV.p (e_pagemenddraw_Codes b0)), .arr w1 1 (List.map (r_i .u8) l1)]⟩) = (d_draw_Codes_Data_0 p x3 w1) o := by
  unfold S_draw_Codes_Data_0 at h
  rcases ite_inv h with ⟨h1, h⟩ | ⟨h1, h⟩
  · obtain ⟨r2, h3, h⟩ := Option.bind_eq_some_iff.1 h
    have f4 : ∀ ws new s, boxesAt ws s [0] [List.map AV.p (e_pagemenddraw_Codes b0)] → (callR2 (AF (tabOf p)) i_draw_Codes_Next ([.ptr 0 0, .p (.i .i64 3)], ws) 0 new).run s = some ⟨.p (.i .i64 r2.1), ws ++ [(0, .box (List.map AV.p (e_pagemenddraw_Codes r2.2)))]⟩ := callR2_ptrs (args' := [.ptr 0 0, .p (.i .i64 3)]) (bs := [0]) (css := [List.map AV.p (e_pagemenddraw_Codes b0)]) (css' := [List.map AV.p (e_pagemenddraw_Codes r2.2)]) rfl rfl rfl (by simp [allPlain, all_plain_mapp]) (e_draw_Codes_Next p h3) rfl rfl (by simp [allPlain, all_plain_mapp])
    try simp only [Nf] at f4
    obtain ⟨m5, h6, h⟩ := Option.bind_eq_some_iff.1 h
    have f7 : ∀ s : St, s.sto[1]? = some (.arr w1 1 (List.map (r_i .u8) l1)) → (rowsOf 1 (.p (.sl 1 (List.map (r_i .u8) ([(IntKind.wrap .u8 (IntKind.wrap .i64 (97 + r2.1)))] : List Int))))).run s = some (List.map (r_i .u8) ([(IntKind.wrap .u8 (IntKind.wrap .i64 (97 + r2.1)))] : List Int)) → (appR 1 1 (.slr 1 0 (List.length l1)) (.p (.sl 1 (List.map (r_i .u8) ([(IntKind.wrap .u8 (IntKind.wrap .i64 (97 + r2.1)))] : List Int))))).run s = some ⟨.slr 1 0 (List.length m5), [(1, .arr w1 1 (List.map (r_i .u8) m5))]⟩ := by
      intro s e1 e2; have e3 := appR_ok h6 e1 e2; try simp only [List.length_cons, List.length_nil, Nat.zero_add] at e3
      exact e3
    try simp only [Nf] at f7
    obtain rfl := Option.some.inj h
    simp only [↓Da1, ↓Da2, ↓Da3, Ua1, Ua2, Ua3, Ua4, Ua5, Ua6, Ua7, Ua8, Ua9, Ua10, Ua11, c_draw_Codes_Data_0, B_pagemenddraw_Codes, h1, f4, f7, ↓reduceIte, Nat.reduceEqDiff, Nat.reduceAdd, Nat.reduceLT, Nat.reduceMul]
    rfl
  · obtain ⟨o', h', rfl⟩ := Option.map_eq_some_iff.1 h
    simp only [↓Da1, ↓Da2, ↓Da3, Ua1, Ua2, Ua3, Ua4, Ua5, Ua6, Ua7, Ua8, Ua9, Ua10, Ua11, c_draw_Codes_Data_0, B_pagemenddraw_Codes, h1, ↓reduceIte, Nat.reduceEqDiff, Nat.reduceAdd, Nat.reduceLT, Nat.reduceMul]
    have e0 := e_draw_Codes_Data_1 p (w1 := w1) h'
    exact e0


def W_draw_Codes_Data_0 (x3 : Int) (s : Int × T_pagemenddraw_Codes × (List Int)) : Option ((List UInt8) × T_pagemenddraw_Codes) :=
  whileO (fun s => S_draw_Codes_Data_0 x3 s.1 s.2.1 s.2.2) s

theorem e_draw_Codes_Data_0_w {x3 : Int} {w1 : Bool} {s : Int × T_pagemenddraw_Codes × (List Int)} {o : (List UInt8) × T_pagemenddraw_Codes} (h : W_draw_Codes_Data_0 x3 s = some o) :
    rk (tabOf p) f_draw_Codes_Data 1 [.bl 0, .sq (.keep [4] c_draw_Codes_Data_1)] (X (tabOf p) (.lp 2 [0, 3, 4, 5] c_draw_Codes_Data_0) ⟨[(0, .ptr 0 0), (3, .p (.i .i64 x3)), (4, .slr 1 0 (List.length s.2.2)), (5, .p (.i .i64 s.1))], [.box (List.map AV.p (e_pagemenddraw_Codes s.2.1)), .arr w1 1 (List.map (r_i .u8) s.2.2)]⟩) = d_draw_Codes_Data o := by
  have h0 : whileO (fun s => S_draw_Codes_Data_0 x3 s.1 s.2.1 s.2.2) s = some o := h
  exact while_ind (P := fun (s : Int × T_pagemenddraw_Codes × (List Int)) (o : (List UInt8) × T_pagemenddraw_Codes) => rk (tabOf p) f_draw_Codes_Data 1 [.bl 0, .sq (.keep [4] c_draw_Codes_Data_1)] (X (tabOf p) (.lp 2 [0, 3, 4, 5] c_draw_Codes_Data_0) ⟨[(0, .ptr 0 0), (3, .p (.i .i64 x3)), (4, .slr 1 0 (List.length s.2.2)), (5, .p (.i .i64 s.1))], [.box (List.map AV.p (e_pagemenddraw_Codes s.2.1)), .arr w1 1 (List.map (r_i .u8) s.2.2)]⟩) = d_draw_Codes_Data o) (fun s r hs => by rw [rk_lp]; exact e_draw_Codes_Data_0 p hs) (fun s s1 r hs ih => by rw [rk_lp]; exact (e_draw_Codes_Data_0 p hs).trans ih) h0

def S_draw_Codes_Data_2 (x3 : Int) (b0 : T_pagemenddraw_Codes) : Option ((List UInt8) × T_pagemenddraw_Codes) :=
  Option.bind (mkS 1 0 x3 0) fun m1 =>
  W_draw_Codes_Data_0 x3 (0, b0, m1)

theorem e_draw_Codes_Data_2 {x3 : Int} {b0 : T_pagemenddraw_Codes} {o : (List UInt8) × T_pagemenddraw_Codes} (h : S_draw_Codes_Data_2 x3 b0 = some o) :
    rk (tabOf p) f_draw_Codes_Data 1 [] (X (tabOf p) c_draw_Codes_Data_2 ⟨[(0, .ptr 0 0), (3, .p (.i .i64 x3))], [.box (List.map AV.p (e_pagemenddraw_Codes b0))]⟩) = d_draw_Codes_Data o := by
  unfold S_draw_Codes_Data_2 at h
  obtain ⟨m1, h2, h⟩ := Option.bind_eq_some_iff.1 h
  have f3 : (0 ≤ (0 : Int) ∧ (0 : Int) ≤ x3 ∧ ((1 : Nat) : Int) * x3 ≤ 281474976710656 ∧ (x3 : Int) ≤ 281474976710656) = True := eq_true (mkS_iff h2).1
  have f4 : List.replicate (Int.toNat 0) ((r_i .u8) 0) = List.map (r_i .u8) m1 := by rw [(mkS_iff h2).2, List.map_replicate]
  try simp only [Nf] at f4
  have g5 : List.length m1 = Int.toNat 0 := by rw [(mkS_iff h2).2, List.length_replicate]
  simp only [↓Da1, ↓Da2, ↓Da3, Ua1, Ua2, Ua3, Ua4, Ua5, Ua6, Ua7, Ua8, Ua9, Ua10, Ua11, c_draw_Codes_Data_2, f3, f4, g5, ↓reduceIte, Nat.reduceEqDiff, Nat.reduceAdd, Nat.reduceLT, Nat.reduceMul]
  have e0 := e_draw_Codes_Data_0_w p (w1 := true) h
  try simp only [g5] at e0
  exact e0


def S_draw_Codes_Data (b0 : T_pagemenddraw_Codes) : Option ((List UInt8) × T_pagemenddraw_Codes) :=
  Option.bind (S_draw_Codes_Next b0 5) fun r1 =>
  Option.bind (S_draw_Codes_Next r1.2 6) fun r4 =>
  if ((r4.1 : Int) == 0) then
    Option.bind (S_draw_Codes_Next r4.2 14) fun r8 =>
    S_draw_Codes_Data_2 r8.1 r8.2
  else
    S_draw_Codes_Data_2 r1.1 r4.2

theorem e_draw_Codes_Data_top {b0 : T_pagemenddraw_Codes} {o : (List UInt8) × T_pagemenddraw_Codes} (h : S_draw_Codes_Data b0 = some o) :
    rk (tabOf p) f_draw_Codes_Data 1 [] (X (tabOf p) c_draw_Codes_Data ⟨[(0, .ptr 0 0)], [.box (List.map AV.p (e_pagemenddraw_Codes b0))]⟩) = d_draw_Codes_Data o := by
  unfold S_draw_Codes_Data at h
  obtain ⟨r1, h2, h⟩ := Option.bind_eq_some_iff.1 h
  have f3 : ∀ ws new s, boxesAt ws s [0] [List.map AV.p (e_pagemenddraw_Codes b0)] → (callR2 (AF (tabOf p)) i_draw_Codes_Next ([.ptr 0 0, .p (.i .i64 5)], ws) 0 new).run s = some ⟨.p (.i .i64 r1.1), ws ++ [(0, .box (List.map AV.p (e_pagemenddraw_Codes r1.2)))]⟩ := callR2_ptrs (args' := [.ptr 0 0, .p (.i .i64 5)]) (bs := [0]) (css := [List.map AV.p (e_pagemenddraw_Codes b0)]) (css' := [List.map AV.p (e_pagemenddraw_Codes r1.2)]) rfl rfl rfl (by simp [allPlain, all_plain_mapp]) (e_draw_Codes_Next p h2) rfl rfl (by simp [allPlain, all_plain_mapp])
  try simp only [Nf] at f3
  obtain ⟨r4, h5, h⟩ := Option.bind_eq_some_iff.1 h
  have f6 : ∀ ws new s, boxesAt ws s [0] [List.map AV.p (e_pagemenddraw_Codes r1.2)] → (callR2 (AF (tabOf p)) i_draw_Codes_Next ([.ptr 0 0, .p (.i .i64 6)], ws) 0 new).run s = some ⟨.p (.i .i64 r4.1), ws ++ [(0, .box (List.map AV.p (e_pagemenddraw_Codes r4.2)))]⟩ := callR2_ptrs (args' := [.ptr 0 0, .p (.i .i64 6)]) (bs := [0]) (css := [List.map AV.p (e_pagemenddraw_Codes r1.2)]) (css' := [List.map AV.p (e_pagemenddraw_Codes r4.2)]) rfl rfl rfl (by simp [allPlain, all_plain_mapp]) (e_draw_Codes_Next p h5) rfl rfl (by simp [allPlain, all_plain_mapp])
  try simp only [Nf] at f6
  rcases ite_inv h with ⟨h7, h⟩ | ⟨h7, h⟩
  · obtain ⟨r8, h9, h⟩ := Option.bind_eq_some_iff.1 h
    have f10 : ∀ ws new s, boxesAt ws s [0] [List.map AV.p (e_pagemenddraw_Codes r4.2)] → (callR2 (AF (tabOf p)) i_draw_Codes_Next ([.ptr 0 0, .p (.i .i64 14)], ws) 0 new).run s = some ⟨.p (.i .i64 r8.1), ws ++ [(0, .box (List.map AV.p (e_pagemenddraw_Codes r8.2)))]⟩ := callR2_ptrs (args' := [.ptr 0 0, .p (.i .i64 14)]) (bs := [0]) (css := [List.map AV.p (e_pagemenddraw_Codes r4.2)]) (css' := [List.map AV.p (e_pagemenddraw_Codes r8.2)]) rfl rfl rfl (by simp [allPlain, all_plain_mapp]) (e_draw_Codes_Next p h9) rfl rfl (by simp [allPlain, all_plain_mapp])
    try simp only [Nf] at f10
    simp only [↓Da1, ↓Da2, ↓Da3, Ua1, Ua2, Ua3, Ua4, Ua5, Ua6, Ua7, Ua8, Ua9, Ua10, Ua11, c_draw_Codes_Data, B_pagemenddraw_Codes, f3, f6, h7, f10, ↓reduceIte, Nat.reduceEqDiff, Nat.reduceAdd, Nat.reduceLT, Nat.reduceMul]
    have e0 := e_draw_Codes_Data_2 p h
    exact e0
  · simp only [↓Da1, ↓Da2, ↓Da3, Ua1, Ua2, Ua3, Ua4, Ua5, Ua6, Ua7, Ua8, Ua9, Ua10, Ua11, c_draw_Codes_Data, B_pagemenddraw_Codes, f3, f6, h7, ↓reduceIte, Nat.reduceEqDiff, Nat.reduceAdd, Nat.reduceLT, Nat.reduceMul]
    have e0 := e_draw_Codes_Data_2 p h
    exact e0


theorem e_draw_Codes_Data {b0 : T_pagemenddraw_Codes} {o : (List UInt8) × T_pagemenddraw_Codes} (h : S_draw_Codes_Data b0 = some o) : AF (tabOf p) i_draw_Codes_Data [.ptr 0 0] [.box (List.map AV.p (e_pagemenddraw_Codes b0))] = d_draw_Codes_Data o :=
  (AF_rk (tabOf p) (t_draw_Codes_Data p) rfl).trans (e_draw_Codes_Data_top p h)

/-! pagemend/codec.Put -/

def d_codec_Put (r : List UInt8) : Option Res := some (.p (.s r), [])

def S_codec_Put (x0 : List UInt8) (x1 : Int) (x2 : Int) : Option (List UInt8) := putS x0 x1 x2

theorem e_codec_Put {x0 : List UInt8} {x1 : Int} {x2 : Int} {o : List UInt8} (h : S_codec_Put x0 x1 x2 = some o) : AF (tabOf p) i_codec_Put [.p (.s x0), .p (.i .i64 x1), .p (.i .i64 x2)] [] = d_codec_Put o := by
  rw [AF_prim (t_codec_Put p)]
  have h' : putS x0 x1 x2 = some o := h
  simp only [putP, h', Option.map_some, d_codec_Put]

/-! pagemend/codec.Get -/

def d_codec_Get  (r : Int × Int) : Option Res := some (.tup [.p (.i .i64 r.1), .p (.i .i64 r.2)], [])

def d_codec_Get_0 (x0 : List UInt8) (x1 : Int) (x34 : Int) (o : (Int × Int) ⊕ (Int × Int)) : Option Res := match o with
  | .inl s => rk (tabOf p) f_codec_Get 0 [.bl 1, .sq (.keep [8] c_codec_Get_1)] (X (tabOf p) (.lp 0 [0, 1, 8, 34, 35] c_codec_Get_0) ⟨[(0, .p (.s x0)), (1, .p (.i .i64 x1)), (8, .p (.i .u64 s.1)), (34, .p (.i .i64 x34)), (35, .p (.i .i64 s.2))], []⟩)
  | .inr o => d_codec_Get o

def S_codec_Get_1 (x8 : Int) : Option (Int × Int) :=
  some ((IntKind.wrap .i64 x8), 0)

theorem e_codec_Get_1 {x8 : Int} {o : Int × Int} (h : S_codec_Get_1 x8 = some o) :
    rk (tabOf p) f_codec_Get 0 [] (X (tabOf p) c_codec_Get_1 ⟨[(8, .p (.i .u64 x8))], []⟩) = d_codec_Get o := by
  unfold S_codec_Get_1 at h
  obtain rfl := Option.some.inj h
  simp only [↓Da1, ↓Da2, ↓Da3, Ua1, Ua2, Ua3, Ua4, Ua5, Ua6, Ua7, Ua8, Ua9, Ua10, Ua11, c_codec_Get_1, z_codec_Get, ↓reduceIte, Nat.reduceEqDiff, Nat.reduceAdd, Nat.reduceLT, Nat.reduceMul]
  rfl


def S_codec_Get_0 (x0 : List UInt8) (x1 : Int) (x34 : Int) (x8 : Int) (x35 : Int) : Option (((Int × Int) ⊕ (Int × Int))) :=
  if (decide (x35 < x34)) then
    Option.bind (sidS x0 (IntKind.wrap .i64 (x1 + x35))) fun c2 =>
    Option.bind (shlS .u64 (IntKind.wrap .u64 c2) (IntKind.wrap .i64 (8 * x35))) fun q4 =>
    some (.inl ((orI .u64 x8 q4), (IntKind.wrap .i64 (x35 + 1))))
  else
    Option.map (fun o => .inr o) (S_codec_Get_1 x8)

theorem e_codec_Get_0 {x0 : List UInt8} {x1 : Int} {x34 : Int} {x8 : Int} {x35 : Int} {o : ((Int × Int) ⊕ (Int × Int))} (h : S_codec_Get_0 x0 x1 x34 x8 x35 = some o) :
    rk (tabOf p) f_codec_Get 0 [.lo 0 [0, 1, 8, 34, 35] c_codec_Get_0, .bl 1, .sq (.keep [8] c_codec_Get_1)] (X (tabOf p) c_codec_Get_0 ⟨[(0, .p (.s x0)), (1, .p (.i .i64 x1)), (8, .p (.i .u64 x8)), (34, .p (.i .i64 x34)), (35, .p (.i .i64 x35))], []⟩) = (d_codec_Get_0 p x0 x1 x34) o := by
  unfold S_codec_Get_0 at h
  rcases ite_inv h with ⟨h1, h⟩ | ⟨h1, h⟩
  · obtain ⟨c2, h3, h⟩ := Option.bind_eq_some_iff.1 h
    obtain ⟨q4, h5, h⟩ := Option.bind_eq_some_iff.1 h
    obtain rfl := Option.some.inj h
    simp only [↓Da1, ↓Da2, ↓Da3, Ua1, Ua2, Ua3, Ua4, Ua5, Ua6, Ua7, Ua8, Ua9, Ua10, Ua11, c_codec_Get_0, h1, h3, h5, ↓reduceIte, Nat.reduceEqDiff, Nat.reduceAdd, Nat.reduceLT, Nat.reduceMul]
    rfl
  · obtain ⟨o', h', rfl⟩ := Option.map_eq_some_iff.1 h
    simp only [↓Da1, ↓Da2, ↓Da3, Ua1, Ua2, Ua3, Ua4, Ua5, Ua6, Ua7, Ua8, Ua9, Ua10, Ua11, c_codec_Get_0, h1, ↓reduceIte, Nat.reduceEqDiff, Nat.reduceAdd, Nat.reduceLT, Nat.reduceMul]
    have e0 := e_codec_Get_1 p h'
    exact e0


def W_codec_Get_0 (x0 : List UInt8) (x1 : Int) (x34 : Int) (s : Int × Int) : Option (Int × Int) :=
  whileO (fun s => S_codec_Get_0 x0 x1 x34 s.1 s.2) s

theorem e_codec_Get_0_w {x0 : List UInt8} {x1 : Int} {x34 : Int} {s : Int × Int} {o : Int × Int} (h : W_codec_Get_0 x0 x1 x34 s = some o) :
    rk (tabOf p) f_codec_Get 0 [.bl 1, .sq (.keep [8] c_codec_Get_1)] (X (tabOf p) (.lp 0 [0, 1, 8, 34, 35] c_codec_Get_0) ⟨[(0, .p (.s x0)), (1, .p (.i .i64 x1)), (8, .p (.i .u64 s.1)), (34, .p (.i .i64 x34)), (35, .p (.i .i64 s.2))], []⟩) = d_codec_Get o := by
  have h0 : whileO (fun s => S_codec_Get_0 x0 x1 x34 s.1 s.2) s = some o := h
  exact while_ind (P := fun (s : Int × Int) (o : Int × Int) => rk (tabOf p) f_codec_Get 0 [.bl 1, .sq (.keep [8] c_codec_Get_1)] (X (tabOf p) (.lp 0 [0, 1, 8, 34, 35] c_codec_Get_0) ⟨[(0, .p (.s x0)), (1, .p (.i .i64 x1)), (8, .p (.i .u64 s.1)), (34, .p (.i .i64 x34)), (35, .p (.i .i64 s.2))], []⟩) = d_codec_Get o) (fun s r hs => by rw [rk_lp]; exact e_codec_Get_0 p hs) (fun s s1 r hs ih => by rw [rk_lp]; exact (e_codec_Get_0 p hs).trans ih) h0

def S_codec_Get (x0 : List UInt8) (x1 : Int) (x2 : Int) : Option (Int × Int) :=
  if (decide (x2 < 1)) then
    some (0, 1)
  else
    if (decide (x2 > 8)) then
      some (0, 1)
    else
      if (decide (x1 < 0)) then
        some (0, 1)
      else
        if (decide (x1 > ((List.length x0 : Nat) : Int))) then
          some (0, 5)
        else
          if (decide ((IntKind.wrap .i64 (((List.length x0 : Nat) : Int) - x1)) < x2)) then
            some (0, 5)
          else
            W_codec_Get_0 x0 x1 x2 (0, 0)

theorem e_codec_Get_top {x0 : List UInt8} {x1 : Int} {x2 : Int} {o : Int × Int} (h : S_codec_Get x0 x1 x2 = some o) :
    rk (tabOf p) f_codec_Get 0 [] (X (tabOf p) c_codec_Get ⟨[(0, .p (.s x0)), (1, .p (.i .i64 x1)), (2, .p (.i .i64 x2))], []⟩) = d_codec_Get o := by
  unfold S_codec_Get at h
  rcases ite_inv h with ⟨h1, h⟩ | ⟨h1, h⟩
  · obtain rfl := Option.some.inj h
    simp only [↓Da1, ↓Da2, ↓Da3, Ua1, Ua2, Ua3, Ua4, Ua5, Ua6, Ua7, Ua8, Ua9, Ua10, Ua11, c_codec_Get, h1, z_codec_Get, ↓reduceIte, Nat.reduceEqDiff, Nat.reduceAdd, Nat.reduceLT, Nat.reduceMul]
    rfl
  · rcases ite_inv h with ⟨h2, h⟩ | ⟨h2, h⟩
    · obtain rfl := Option.some.inj h
      simp only [↓Da1, ↓Da2, ↓Da3, Ua1, Ua2, Ua3, Ua4, Ua5, Ua6, Ua7, Ua8, Ua9, Ua10, Ua11, c_codec_Get, h1, h2, z_codec_Get, ↓reduceIte, Nat.reduceEqDiff, Nat.reduceAdd, Nat.reduceLT, Nat.reduceMul]
      rfl
    · rcases ite_inv h with ⟨h3, h⟩ | ⟨h3, h⟩
      · obtain rfl := Option.some.inj h
        simp only [↓Da1, ↓Da2, ↓Da3, Ua1, Ua2, Ua3, Ua4, Ua5, Ua6, Ua7, Ua8, Ua9, Ua10, Ua11, c_codec_Get, h1, h2, h3, z_codec_Get, ↓reduceIte, Nat.reduceEqDiff, Nat.reduceAdd, Nat.reduceLT, Nat.reduceMul]
        rfl
      · rcases ite_inv h with ⟨h4, h⟩ | ⟨h4, h⟩
        · obtain rfl := Option.some.inj h
          simp only [↓Da1, ↓Da2, ↓Da3, Ua1, Ua2, Ua3, Ua4, Ua5, Ua6, Ua7, Ua8, Ua9, Ua10, Ua11, c_codec_Get, h1, h2, h3, h4, z_codec_Get, ↓reduceIte, Nat.reduceEqDiff, Nat.reduceAdd, Nat.reduceLT, Nat.reduceMul]
          rfl
        · rcases ite_inv h with ⟨h5, h⟩ | ⟨h5, h⟩
          · obtain rfl := Option.some.inj h
            simp only [↓Da1, ↓Da2, ↓Da3, Ua1, Ua2, Ua3, Ua4, Ua5, Ua6, Ua7, Ua8, Ua9, Ua10, Ua11, c_codec_Get, h1, h2, h3, h4, h5, z_codec_Get, ↓reduceIte, Nat.reduceEqDiff, Nat.reduceAdd, Nat.reduceLT, Nat.reduceMul]
            rfl
          · simp only [↓Da1, ↓Da2, ↓Da3, Ua1, Ua2, Ua3, Ua4, Ua5, Ua6, Ua7, Ua8, Ua9, Ua10, Ua11, c_codec_Get, h1, h2, h3, h4, h5, ↓reduceIte, Nat.reduceEqDiff, Nat.reduceAdd, Nat.reduceLT, Nat.reduceMul]
            have e0 := e_codec_Get_0_w p h
            exact e0


theorem e_codec_Get {x0 : List UInt8} {x1 : Int} {x2 : Int} {o : Int × Int} (h : S_codec_Get x0 x1 x2 = some o) : AF (tabOf p) i_codec_Get [.p (.s x0), .p (.i .i64 x1), .p (.i .i64 x2)] [] = d_codec_Get o :=
  (AF_rk (tabOf p) (t_codec_Get p) rfl).trans (e_codec_Get_top p h)

/-! (*pagemend/pagemenddraw.Codes).Cell -/

def d_draw_Codes_Cell  (r : T_api_Cell × T_pagemenddraw_Codes) : Option Res := some (.data (e_api_Cell r.1), [.box (List.map AV.p (e_pagemenddraw_Codes r.2))])

def S_draw_Codes_Cell (b0 : T_pagemenddraw_Codes) : Option (T_api_Cell × T_pagemenddraw_Codes) :=
  Option.bind (S_draw_Codes_Next b0 3) fun r1 =>
  if ((r1.1 : Int) == 0) then
    some ((⟨false, ([] : List UInt8)⟩ : T_api_Cell), r1.2)
  else
    Option.bind (S_draw_Codes_Data r1.2) fun r5 =>
    Option.bind (slcS r5.1 none (some (minI ((List.length r5.1 : Nat) : Int) 12))) fun m8 =>
    some ((⟨true, m8⟩ : T_api_Cell), r5.2)

theorem e_draw_Codes_Cell_top {b0 : T_pagemenddraw_Codes} {o : T_api_Cell × T_pagemenddraw_Codes} (h : S_draw_Codes_Cell b0 = some o) :
    rk (tabOf p) f_draw_Codes_Cell 1 [] (X (tabOf p) c_draw_Codes_Cell ⟨[(0, .ptr 0 0)], [.box (List.map AV.p (e_pagemenddraw_Codes b0))]⟩) = d_draw_Codes_Cell o := by
  unfold S_draw_Codes_Cell at h
  obtain ⟨r1, h2, h⟩ := Option.bind_eq_some_iff.1 h
  have f3 : ∀ ws new s, boxesAt ws s [0] [List.map AV.p (e_pagemenddraw_Codes b0)] → (callR2 (AF (tabOf p)) i_draw_Codes_Next ([.ptr 0 0, .p (.i .i64 3)], ws) 0 new).run s = some ⟨.p (.i .i64 r1.1), ws ++ [(0, .box (List.map AV.p (e_pagemenddraw_Codes r1.2)))]⟩ := callR2_ptrs (args' := [.ptr 0 0, .p (.i .i64 3)]) (bs := [0]) (css := [List.map AV.p (e_pagemenddraw_Codes b0)]) (css' := [List.map AV.p (e_pagemenddraw_Codes r1.2)]) rfl rfl rfl (by simp [allPlain, all_plain_mapp]) (e_draw_Codes_Next p h2) rfl rfl (by simp [allPlain, all_plain_mapp])
  try simp only [Nf] at f3
  rcases ite_inv h with ⟨h4, h⟩ | ⟨h4, h⟩
  · obtain rfl := Option.some.inj h
    simp only [↓Da1, ↓Da2, ↓Da3, Ua1, Ua2, Ua3, Ua4, Ua5, Ua6, Ua7, Ua8, Ua9, Ua10, Ua11, c_draw_Codes_Cell, B_api_Cell, B_pagemenddraw_Codes, f3, h4, z_draw_Codes_Cell, ↓reduceIte, Nat.reduceEqDiff, Nat.reduceAdd, Nat.reduceLT, Nat.reduceMul]
    rfl
  · obtain ⟨r5, h6, h⟩ := Option.bind_eq_some_iff.1 h
    have f7 : ∀ ws new s, boxesAt ws s [0] [List.map AV.p (e_pagemenddraw_Codes r1.2)] → (callR2 (AF (tabOf p)) i_draw_Codes_Data ([.ptr 0 0], ws) 0 new).run s = some ⟨.p (.s r5.1), ws ++ [(0, .box (List.map AV.p (e_pagemenddraw_Codes r5.2)))]⟩ := callR2_ptrs (args' := [.ptr 0 0]) (bs := [0]) (css := [List.map AV.p (e_pagemenddraw_Codes r1.2)]) (css' := [List.map AV.p (e_pagemenddraw_Codes r5.2)]) rfl rfl rfl (by simp [allPlain, all_plain_mapp]) (e_draw_Codes_Data p h6) rfl rfl (by simp [allPlain, all_plain_mapp])
    try simp only [Nf] at f7
    obtain ⟨m8, h9, h⟩ := Option.bind_eq_some_iff.1 h
    have f10 : sliceS (.p (.s r5.1)) none (some (.p (.i .i64 (minI ((List.length r5.1 : Nat) : Int) 12)))) = some (.p (.s m8)) := sliceS_ok (k := .i64) (lo := none) (hi := (some (minI ((List.length r5.1 : Nat) : Int) 12))) h9
    try simp only [Nf] at f10
    obtain rfl := Option.some.inj h
    simp only [↓Da1, ↓Da2, ↓Da3, Ua1, Ua2, Ua3, Ua4, Ua5, Ua6, Ua7, Ua8, Ua9, Ua10, Ua11, c_draw_Codes_Cell, B_api_Cell, B_pagemenddraw_Codes, f3, h4, f7, f10, z_draw_Codes_Cell, ↓reduceIte, Nat.reduceEqDiff, Nat.reduceAdd, Nat.reduceLT, Nat.reduceMul]
    rfl


theorem e_draw_Codes_Cell {b0 : T_pagemenddraw_Codes} {o : T_api_Cell × T_pagemenddraw_Codes} (h : S_draw_Codes_Cell b0 = some o) : AF (tabOf p) i_draw_Codes_Cell [.ptr 0 0] [.box (List.map AV.p (e_pagemenddraw_Codes b0))] = d_draw_Codes_Cell o :=
  (AF_rk (tabOf p) (t_draw_Codes_Cell p) rfl).trans (e_draw_Codes_Cell_top p h)

/-! pagemend/page.cells -/

def d_page_cells  (r : Bool) : Option Res := some (.p (.b r), [])

def d_page_cells_0 (x6 : Vector T_api_Cell 16) (b0 : T_api_Page) (o : (Int) ⊕ (Bool)) : Option Res := match o with
  | .inl s => rk (tabOf p) f_page_cells 0 [.bl 0, .td 1 [2], .sq (.keep [] c_page_cells_1)] (X (tabOf p) (.lp 1 [1, 6, 7] c_page_cells_0) ⟨[(1, .ptr 0 0), (6, .data ((e_ar e_api_Cell) x6)), (7, .p (.i .i64 s))], [.box (List.map AV.p (e_api_Page b0))]⟩)
  | .inr o => d_page_cells o

def S_page_cells_1  : Option (Bool) :=
  some true

theorem e_page_cells_1 {B0 : List PV} {o : Bool} (h : S_page_cells_1 = some o) :
    rk (tabOf p) f_page_cells 0 [] (X (tabOf p) c_page_cells_1 ⟨[], [.box (List.map AV.p B0)]⟩) = d_page_cells o := by
  unfold S_page_cells_1 at h
  obtain rfl := Option.some.inj h
  simp only [↓Da1, ↓Da2, ↓Da3, Ua1, Ua2, Ua3, Ua4, Ua5, Ua6, Ua7, Ua8, Ua9, Ua10, Ua11, c_page_cells_1, z_page_cells, ↓reduceIte, Nat.reduceEqDiff, Nat.reduceAdd, Nat.reduceLT, Nat.reduceMul]
  rfl


def S_page_cells_0 (x6 : Vector T_api_Cell 16) (b0 : T_api_Page) (x7 : Int) : Option (((Int) ⊕ (Bool))) :=
  if (decide (x7 < 16)) then
    Option.bind (vget x6 x7) fun y2 =>
    if (decide (((List.length y2.Data : Nat) : Int) > 12)) then
      some (.inr false)
    else
      if y2.Set then
        if ((b0.LSN : Int) == 0) then
          some (.inr false)
        else
          some (.inl (IntKind.wrap .i64 (x7 + 1)))
      else
        if (y2.Data == []) then
          some (.inl (IntKind.wrap .i64 (x7 + 1)))
        else
          some (.inr false)
  else
    Option.map (fun o => .inr o) (S_page_cells_1)

theorem e_page_cells_0 {x6 : Vector T_api_Cell 16} {b0 : T_api_Page} {x7 : Int} {o : ((Int) ⊕ (Bool))} (h : S_page_cells_0 x6 b0 x7 = some o) :
    rk (tabOf p) f_page_cells 0 [.lo 1 [1, 6, 7] c_page_cells_0, .bl 0, .td 1 [2], .sq (.keep [] c_page_cells_1)] (X (tabOf p) c_page_cells_0 ⟨[(1, .ptr 0 0), (6, .data ((e_ar e_api_Cell) x6)), (7, .p (.i .i64 x7))], [.box (List.map AV.p (e_api_Page b0))]⟩) = (d_page_cells_0 p x6 b0) o := by
  unfold S_page_cells_0 at h
  rcases ite_inv h with ⟨h1, h⟩ | ⟨h1, h⟩
  · obtain ⟨y2, h3, h⟩ := Option.bind_eq_some_iff.1 h
    have f4 : (0 ≤ (x7 : Int) ∧ (x7 : Int) < ((16 : Nat) : Int)) = True := eq_true (vget_iff h3).1
    have f5 : sub (e_ar e_api_Cell x6) (Int.toNat x7 * 2) 2 = some (e_api_Cell y2) := ar_sub len_api_Cell (vget_iff h3).2
    try simp only [Nf] at f5
    rcases ite_inv h with ⟨h6, h⟩ | ⟨h6, h⟩
    · obtain rfl := Option.some.inj h
      simp only [↓Da1, ↓Da2, ↓Da3, Ua1, Ua2, Ua3, Ua4, Ua5, Ua6, Ua7, Ua8, Ua9, Ua10, Ua11, c_page_cells_0, B_api_Cell, B_ar_eareapiCell16, B_api_Page, h1, f4, f5, h6, z_page_cells, ↓reduceIte, Nat.reduceEqDiff, Nat.reduceAdd, Nat.reduceLT, Nat.reduceMul]
      rfl
    · rcases ite_inv h with ⟨h7, h⟩ | ⟨h7, h⟩
      · rcases ite_inv h with ⟨h8, h⟩ | ⟨h8, h⟩
        · obtain rfl := Option.some.inj h
          simp only [↓Da1, ↓Da2, ↓Da3, Ua1, Ua2, Ua3, Ua4, Ua5, Ua6, Ua7, Ua8, Ua9, Ua10, Ua11, c_page_cells_0, B_api_Cell, B_ar_eareapiCell16, B_api_Page, h1, f4, f5, h6, h7, h8, z_page_cells, ↓reduceIte, Nat.reduceEqDiff, Nat.reduceAdd, Nat.reduceLT, Nat.reduceMul]
          rfl
        · obtain rfl := Option.some.inj h
          simp only [↓Da1, ↓Da2, ↓Da3, Ua1, Ua2, Ua3, Ua4, Ua5, Ua6, Ua7, Ua8, Ua9, Ua10, Ua11, c_page_cells_0, B_api_Cell, B_ar_eareapiCell16, B_api_Page, h1, f4, f5, h6, h7, h8, ↓reduceIte, Nat.reduceEqDiff, Nat.reduceAdd, Nat.reduceLT, Nat.reduceMul]
          rfl
      · rcases ite_inv h with ⟨h9, h⟩ | ⟨h9, h⟩
        · obtain rfl := Option.some.inj h
          simp only [↓Da1, ↓Da2, ↓Da3, Ua1, Ua2, Ua3, Ua4, Ua5, Ua6, Ua7, Ua8, Ua9, Ua10, Ua11, c_page_cells_0, B_api_Cell, B_ar_eareapiCell16, B_api_Page, h1, f4, f5, h6, h7, h9, ↓reduceIte, Nat.reduceEqDiff, Nat.reduceAdd, Nat.reduceLT, Nat.reduceMul]
          rfl
        · obtain rfl := Option.some.inj h
          simp only [↓Da1, ↓Da2, ↓Da3, Ua1, Ua2, Ua3, Ua4, Ua5, Ua6, Ua7, Ua8, Ua9, Ua10, Ua11, c_page_cells_0, B_api_Cell, B_ar_eareapiCell16, B_api_Page, h1, f4, f5, h6, h7, h9, z_page_cells, ↓reduceIte, Nat.reduceEqDiff, Nat.reduceAdd, Nat.reduceLT, Nat.reduceMul]
          rfl
  · obtain ⟨o', h', rfl⟩ := Option.map_eq_some_iff.1 h
    simp only [↓Da1, ↓Da2, ↓Da3, Ua1, Ua2, Ua3, Ua4, Ua5, Ua6, Ua7, Ua8, Ua9, Ua10, Ua11, c_page_cells_0, B_api_Cell, B_ar_eareapiCell16, B_api_Page, h1, ↓reduceIte, Nat.reduceEqDiff, Nat.reduceAdd, Nat.reduceLT, Nat.reduceMul]
    have e0 := e_page_cells_1 p (B0 := (e_api_Page b0)) h'
    exact e0


def W_page_cells_0 (x6 : Vector T_api_Cell 16) (b0 : T_api_Page) (s : Int) : Option (Bool) :=
  whileO (fun s => S_page_cells_0 x6 b0 s) s

theorem e_page_cells_0_w {x6 : Vector T_api_Cell 16} {b0 : T_api_Page} {s : Int} {o : Bool} (h : W_page_cells_0 x6 b0 s = some o) :
    rk (tabOf p) f_page_cells 0 [.bl 0, .td 1 [2], .sq (.keep [] c_page_cells_1)] (X (tabOf p) (.lp 1 [1, 6, 7] c_page_cells_0) ⟨[(1, .ptr 0 0), (6, .data ((e_ar e_api_Cell) x6)), (7, .p (.i .i64 s))], [.box (List.map AV.p (e_api_Page b0))]⟩) = d_page_cells o := by
  have h0 : whileO (fun s => S_page_cells_0 x6 b0 s) s = some o := h
  exact while_ind (P := fun (s : Int) (o : Bool) => rk (tabOf p) f_page_cells 0 [.bl 0, .td 1 [2], .sq (.keep [] c_page_cells_1)] (X (tabOf p) (.lp 1 [1, 6, 7] c_page_cells_0) ⟨[(1, .ptr 0 0), (6, .data ((e_ar e_api_Cell) x6)), (7, .p (.i .i64 s))], [.box (List.map AV.p (e_api_Page b0))]⟩) = d_page_cells o) (fun s r hs => by rw [rk_lp]; exact e_page_cells_0 p hs) (fun s s1 r hs ih => by rw [rk_lp]; exact (e_page_cells_0 p hs).trans ih) h0

def S_page_cells (x0 : T_api_Page) : Option (Bool) :=
  W_page_cells_0 x0.Cells x0 0

theorem e_page_cells_top {x0 : T_api_Page} {o : Bool} (h : S_page_cells x0 = some o) :
    rk (tabOf p) f_page_cells 0 [] (X (tabOf p) c_page_cells ⟨[(0, .data (e_api_Page x0))], []⟩) = d_page_cells o := by
  unfold S_page_cells at h
  simp only [↓Da1, ↓Da2, ↓Da3, Ua1, Ua2, Ua3, Ua4, Ua5, Ua6, Ua7, Ua8, Ua9, Ua10, Ua11, c_page_cells, B_api_Cell, B_ar_eareapiCell16, B_api_Page, ↓reduceIte, Nat.reduceEqDiff, Nat.reduceAdd, Nat.reduceLT, Nat.reduceMul]
  have e0 := e_page_cells_0_w p h
  exact e0


theorem e_page_cells {x0 : T_api_Page} {o : Bool} (h : S_page_cells x0 = some o) : AF (tabOf p) i_page_cells [.data (e_api_Page x0)] [] = d_page_cells o :=
  (AF_rk (tabOf p) (t_page_cells p) rfl).trans (e_page_cells_top p h)

/-! strings.Repeat -/

def d_strings_Repeat (r : List UInt8) : Option Res := some (.p (.s r), [])

def S_strings_Repeat (x0 : List UInt8) (x1 : Int) : Option (List UInt8) := repS x0 x1

theorem e_strings_Repeat {x0 : List UInt8} {x1 : Int} {o : List UInt8} (h : S_strings_Repeat x0 x1 = some o) : AF (tabOf p) i_strings_Repeat [.p (.s x0), .p (.i .i64 x1)] [] = d_strings_Repeat o := by
  rw [AF_prim (t_strings_Repeat p)]
  have h' : repS x0 x1 = some o := h
  simp only [repP, h', Option.map_some, d_strings_Repeat]

/-! pagemend/page.number -/

def d_page_number  (r : Int) : Option Res := some (.p (.i .i64 r), [])

def S_page_number (x0 : List UInt8) (x1 : Int) (x2 : Int) : Option (Int) :=
  Option.bind (S_codec_Get x0 x1 x2) fun r1 =>
  some r1.1

theorem e_page_number_top {x0 : List UInt8} {x1 : Int} {x2 : Int} {o : Int} (h : S_page_number x0 x1 x2 = some o) :
    rk (tabOf p) f_page_number 0 [] (X (tabOf p) c_page_number ⟨[(0, .p (.s x0)), (1, .p (.i .i64 x1)), (2, .p (.i .i64 x2))], []⟩) = d_page_number o := by
  unfold S_page_number at h
  obtain ⟨r1, h2, h⟩ := Option.bind_eq_some_iff.1 h
  have f3 : ∀ ws new s, (callR2 (AF (tabOf p)) i_codec_Get ([.p (.s x0), .p (.i .i64 x1), .p (.i .i64 x2)], ws) 0 new).run s = some ⟨.tup [.p (.i .i64 r1.1), .p (.i .i64 r1.2)], ws⟩ := callR2_plain rfl (e_codec_Get p h2) rfl
  try simp only [Nf] at f3
  obtain rfl := Option.some.inj h
  simp only [↓Da1, ↓Da2, ↓Da3, Ua1, Ua2, Ua3, Ua4, Ua5, Ua6, Ua7, Ua8, Ua9, Ua10, Ua11, c_page_number, f3, z_page_number, ↓reduceIte, Nat.reduceEqDiff, Nat.reduceAdd, Nat.reduceLT, Nat.reduceMul]
  rfl


theorem e_page_number {x0 : List UInt8} {x1 : Int} {x2 : Int} {o : Int} (h : S_page_number x0 x1 x2 = some o) : AF (tabOf p) i_page_number [.p (.s x0), .p (.i .i64 x1), .p (.i .i64 x2)] [] = d_page_number o :=
  (AF_rk (tabOf p) (t_page_number p) rfl).trans (e_page_number_top p h)

/-! pagemend/page.read -/

def d_page_read  (r : T_api_Page × Bool) : Option Res := some (.tup [.data (e_api_Page r.1), .p (.b r.2)], [])

def d_page_read_0 (x0 : List UInt8) (b0 : T_api_Page) (o : (Int × T_api_Page) ⊕ (T_api_Page × Bool)) : Option Res := match o with
  | .inl s => rk (tabOf p) f_page_read 0 [.bl 0, .sq (.keep [2, 4] c_page_read_1)] (X (tabOf p) (.lp 2 [0, 2, 4, 13] c_page_read_0) ⟨[(0, .p (.s x0)), (2, .ptr 0 0), (4, .ptr 1 0), (13, .p (.i .i64 s.1))], [.box (List.map AV.p (e_api_Page b0)), .box (List.map AV.p (e_api_Page s.2))]⟩)
  | .inr o => d_page_read o

def S_page_read_1 (b0 : T_api_Page) (b1 : T_api_Page) : Option (T_api_Page × Bool) :=
  some (b1, true)

theorem e_page_read_1 {b0 : T_api_Page} {b1 : T_api_Page} {o : T_api_Page × Bool} (h : S_page_read_1 b0 b1 = some o) :
    rk (tabOf p) f_page_read 0 [] (X (tabOf p) c_page_read_1 ⟨[(2, .ptr 0 0), (4, .ptr 1 0)], [.box (List.map AV.p (e_api_Page b0)), .box (List.map AV.p (e_api_Page b1))]⟩) = d_page_read o := by
  unfold S_page_read_1 at h
  obtain rfl := Option.some.inj h
  simp only [↓Da1, ↓Da2, ↓Da3, Ua1, Ua2, Ua3, Ua4, Ua5, Ua6, Ua7, Ua8, Ua9, Ua10, Ua11, c_page_read_1, B_api_Cell, B_ar_eareapiCell16, B_api_Page, z_page_read, ↓reduceIte, Nat.reduceEqDiff, Nat.reduceAdd, Nat.reduceLT, Nat.reduceMul]
  rfl


def S_page_read_0 (x0 : List UInt8) (b0 : T_api_Page) (x13 : Int) (b1 : T_api_Page) : Option (((Int × T_api_Page) ⊕ (T_api_Page × Bool))) :=
  if (decide (x13 < 16)) then
    Option.bind (S_page_number x0 (IntKind.wrap .i64 (12 + (IntKind.wrap .i64 (x13 * 13)))) 1) fun r2 =>
    if ((r2 : Int) == 255) then
      some (.inl ((IntKind.wrap .i64 (x13 + 1)), b1))
    else
      if (decide (r2 > 12)) then
        some (.inr ((⟨0, 0, (Vector.replicate 16 (⟨false, []⟩ : T_api_Cell))⟩ : T_api_Page), false))
      else
        Option.bind (slcS x0 (some (IntKind.wrap .i64 ((IntKind.wrap .i64 (12 + (IntKind.wrap .i64 (x13 * 13)))) + 1))) (some (IntKind.wrap .i64 ((IntKind.wrap .i64 ((IntKind.wrap .i64 (12 + (IntKind.wrap .i64 (x13 * 13)))) + 1)) + r2)))) fun m7 =>
        Option.bind (inb 16 x13) fun u10 =>
        Option.bind (vget b1.Cells x13) fun y13 =>
        some (.inl ((IntKind.wrap .i64 (x13 + 1)), (⟨b1.ID, b1.LSN, (vset b1.Cells x13 (⟨true, m7⟩ : T_api_Cell))⟩ : T_api_Page)))
  else
    Option.map (fun o => .inr o) (S_page_read_1 b0 b1)

theorem e_page_read_0 {x0 : List UInt8} {b0 : T_api_Page} {x13 : Int} {b1 : T_api_Page} {o : ((Int × T_api_Page) ⊕ (T_api_Page × Bool))} (h : S_page_read_0 x0 b0 x13 b1 = some o) :
    rk (tabOf p) f_page_read 0 [.lo 2 [0, 2, 4, 13] c_page_read_0, .bl 0, .sq (.keep [2, 4] c_page_read_1)] (X (tabOf p) c_page_read_0 ⟨[(0, .p (.s x0)), (2, .ptr 0 0), (4, .ptr 1 0), (13, .p (.i .i64 x13))], [.box (List.map AV.p (e_api_Page b0)), .box (List.map AV.p (e_api_Page b1))]⟩) = (d_page_read_0 p x0 b0) o := by
  unfold S_page_read_0 at h
  rcases ite_inv h with ⟨h1, h⟩ | ⟨h1, h⟩
  · obtain ⟨r2, h3, h⟩ := Option.bind_eq_some_iff.1 h
    have f4 : ∀ ws new s, (callR2 (AF (tabOf p)) i_page_number ([.p (.s x0), .p (.i .i64 (IntKind.wrap .i64 (12 + (IntKind.wrap .i64 (x13 * 13))))), .p (.i .i64 1)], ws) 0 new).run s = some ⟨.p (.i .i64 r2), ws⟩ := callR2_plain rfl (e_page_number p h3) rfl
    try simp only [Nf] at f4
    rcases ite_inv h with ⟨h5, h⟩ | ⟨h5, h⟩
    · obtain rfl := Option.some.inj h
      simp only [↓Da1, ↓Da2, ↓Da3, Ua1, Ua2, Ua3, Ua4, Ua5, Ua6, Ua7, Ua8, Ua9, Ua10, Ua11, c_page_read_0, B_api_Cell, B_ar_eareapiCell16, B_api_Page, h1, f4, h5, ↓reduceIte, Nat.reduceEqDiff, Nat.reduceAdd, Nat.reduceLT, Nat.reduceMul]
      rfl
    · rcases ite_inv h with ⟨h6, h⟩ | ⟨h6, h⟩
      · obtain rfl := Option.some.inj h
        simp only [↓Da1, ↓Da2, ↓Da3, Ua1, Ua2, Ua3, Ua4, Ua5, Ua6, Ua7, Ua8, Ua9, Ua10, Ua11, c_page_read_0, B_api_Cell, B_ar_eareapiCell16, B_api_Page, h1, f4, h5, h6, z_page_read, ↓reduceIte, Nat.reduceEqDiff, Nat.reduceAdd, Nat.reduceLT, Nat.reduceMul]
        rfl
      · obtain ⟨m7, h8, h⟩ := Option.bind_eq_some_iff.1 h
        have f9 : sliceS (.p (.s x0)) (some (.p (.i .i64 (IntKind.wrap .i64 ((IntKind.wrap .i64 (12 + (IntKind.wrap .i64 (x13 * 13)))) + 1))))) (some (.p (.i .i64 (IntKind.wrap .i64 ((IntKind.wrap .i64 ((IntKind.wrap .i64 (12 + (IntKind.wrap .i64 (x13 * 13)))) + 1)) + r2))))) = some (.p (.s m7)) := sliceS_ok (k := .i64) (lo := (some (IntKind.wrap .i64 ((IntKind.wrap .i64 (12 + (IntKind.wrap .i64 (x13 * 13)))) + 1)))) (hi := (some (IntKind.wrap .i64 ((IntKind.wrap .i64 ((IntKind.wrap .i64 (12 + (IntKind.wrap .i64 (x13 * 13)))) + 1)) + r2)))) h8
        try simp only [Nf] at f9
        obtain ⟨u10, h11, h⟩ := Option.bind_eq_some_iff.1 h
        have f12 : (0 ≤ (x13 : Int) ∧ (x13 : Int) < ((16 : Nat) : Int)) = True := eq_true (inb_iff h11)
        obtain ⟨y13, h14, h⟩ := Option.bind_eq_some_iff.1 h
        have f15 : spl (e_api_Page b1) (2 + Int.toNat x13 * 2) (e_api_Cell (⟨true, m7⟩ : T_api_Cell)) = some (e_api_Page (⟨b1.ID, b1.LSN, (vset b1.Cells x13 (⟨true, m7⟩ : T_api_Cell))⟩ : T_api_Page)) := by
          have e0 := (spl_spl (sub_api_Page_Cells b1) (ar_spl (v := b1.Cells) len_api_Cell (vget_lt h14) (⟨true, m7⟩ : T_api_Cell)) (spl_api_Page_Cells b1 _))
          exact e0
        try simp only [Nf] at f15
        obtain rfl := Option.some.inj h
        simp only [↓Da1, ↓Da2, ↓Da3, Ua1, Ua2, Ua3, Ua4, Ua5, Ua6, Ua7, Ua8, Ua9, Ua10, Ua11, c_page_read_0, B_api_Cell, B_ar_eareapiCell16, B_api_Page, h1, f4, h5, h6, f9, f12, f15, ↓reduceIte, Nat.reduceEqDiff, Nat.reduceAdd, Nat.reduceLT, Nat.reduceMul]
        rfl
  · obtain ⟨o', h', rfl⟩ := Option.map_eq_some_iff.1 h
    simp only [↓Da1, ↓Da2, ↓Da3, Ua1, Ua2, Ua3, Ua4, Ua5, Ua6, Ua7, Ua8, Ua9, Ua10, Ua11, c_page_read_0, B_api_Cell, B_ar_eareapiCell16, B_api_Page, h1, ↓reduceIte, Nat.reduceEqDiff, Nat.reduceAdd, Nat.reduceLT, Nat.reduceMul]
    have e0 := e_page_read_1 p h'
    exact e0


def W_page_read_0 (x0 : List UInt8) (b0 : T_api_Page) (s : Int × T_api_Page) : Option (T_api_Page × Bool) :=
  whileO (fun s => S_page_read_0 x0 b0 s.1 s.2) s

theorem e_page_read_0_w {x0 : List UInt8} {b0 : T_api_Page} {s : Int × T_api_Page} {o : T_api_Page × Bool} (h : W_page_read_0 x0 b0 s = some o) :
    rk (tabOf p) f_page_read 0 [.bl 0, .sq (.keep [2, 4] c_page_read_1)] (X (tabOf p) (.lp 2 [0, 2, 4, 13] c_page_read_0) ⟨[(0, .p (.s x0)), (2, .ptr 0 0), (4, .ptr 1 0), (13, .p (.i .i64 s.1))], [.box (List.map AV.p (e_api_Page b0)), .box (List.map AV.p (e_api_Page s.2))]⟩) = d_page_read o := by
  have h0 : whileO (fun s => S_page_read_0 x0 b0 s.1 s.2) s = some o := h
  exact while_ind (P := fun (s : Int × T_api_Page) (o : T_api_Page × Bool) => rk (tabOf p) f_page_read 0 [.bl 0, .sq (.keep [2, 4] c_page_read_1)] (X (tabOf p) (.lp 2 [0, 2, 4, 13] c_page_read_0) ⟨[(0, .p (.s x0)), (2, .ptr 0 0), (4, .ptr 1 0), (13, .p (.i .i64 s.1))], [.box (List.map AV.p (e_api_Page b0)), .box (List.map AV.p (e_api_Page s.2))]⟩) = d_page_read o) (fun s r hs => by rw [rk_lp]; exact e_page_read_0 p hs) (fun s s1 r hs ih => by rw [rk_lp]; exact (e_page_read_0 p hs).trans ih) h0

def S_page_read (x0 : List UInt8) : Option (T_api_Page × Bool) :=
  Option.bind (S_page_number x0 8 4) fun r1 =>
  Option.bind (S_page_number x0 0 8) fun r4 =>
  W_page_read_0 x0 (⟨0, 0, (Vector.replicate 16 (⟨false, []⟩ : T_api_Cell))⟩ : T_api_Page) (0, (⟨r1, r4, (Vector.replicate 16 (⟨false, []⟩ : T_api_Cell))⟩ : T_api_Page))

theorem e_page_read_top {x0 : List UInt8} {o : T_api_Page × Bool} (h : S_page_read x0 = some o) :
    rk (tabOf p) f_page_read 0 [] (X (tabOf p) c_page_read ⟨[(0, .p (.s x0))], []⟩) = d_page_read o := by
  unfold S_page_read at h
  obtain ⟨r1, h2, h⟩ := Option.bind_eq_some_iff.1 h
  have f3 : ∀ ws new s, (callR2 (AF (tabOf p)) i_page_number ([.p (.s x0), .p (.i .i64 8), .p (.i .i64 4)], ws) 0 new).run s = some ⟨.p (.i .i64 r1), ws⟩ := callR2_plain rfl (e_page_number p h2) rfl
  try simp only [Nf] at f3
  obtain ⟨r4, h5, h⟩ := Option.bind_eq_some_iff.1 h
  have f6 : ∀ ws new s, (callR2 (AF (tabOf p)) i_page_number ([.p (.s x0), .p (.i .i64 0), .p (.i .i64 8)], ws) 0 new).run s = some ⟨.p (.i .i64 r4), ws⟩ := callR2_plain rfl (e_page_number p h5) rfl
  try simp only [Nf] at f6
  simp only [↓Da1, ↓Da2, ↓Da3, Ua1, Ua2, Ua3, Ua4, Ua5, Ua6, Ua7, Ua8, Ua9, Ua10, Ua11, c_page_read, B_api_Cell, B_ar_eareapiCell16, B_api_Page, f3, f6, ↓reduceIte, Nat.reduceEqDiff, Nat.reduceAdd, Nat.reduceLT, Nat.reduceMul]
  have e0 := e_page_read_0_w p h
  exact e0


theorem e_page_read {x0 : List UInt8} {o : T_api_Page × Bool} (h : S_page_read x0 = some o) : AF (tabOf p) i_page_read [.p (.s x0)] [] = d_page_read o :=
  (AF_rk (tabOf p) (t_page_read p) rfl).trans (e_page_read_top p h)

/-! pagemend/page.named -/

def d_page_named  (r : Bool) : Option Res := some (.p (.b r), [])

def S_page_named (x0 : Int) : Option (Bool) :=
  if (decide (x0 ≥ 0)) then
    some (decide (x0 < 64))
  else
    some false

theorem e_page_named_top {x0 : Int} {o : Bool} (h : S_page_named x0 = some o) :
    rk (tabOf p) f_page_named 0 [] (X (tabOf p) c_page_named ⟨[(0, .p (.i .i64 x0))], []⟩) = d_page_named o := by
  unfold S_page_named at h
  rcases ite_inv h with ⟨h1, h⟩ | ⟨h1, h⟩
  · obtain rfl := Option.some.inj h
    simp only [↓Da1, ↓Da2, ↓Da3, Ua1, Ua2, Ua3, Ua4, Ua5, Ua6, Ua7, Ua8, Ua9, Ua10, Ua11, c_page_named, h1, z_page_named, ↓reduceIte, Nat.reduceEqDiff, Nat.reduceAdd, Nat.reduceLT, Nat.reduceMul]
    rfl
  · obtain rfl := Option.some.inj h
    simp only [↓Da1, ↓Da2, ↓Da3, Ua1, Ua2, Ua3, Ua4, Ua5, Ua6, Ua7, Ua8, Ua9, Ua10, Ua11, c_page_named, h1, z_page_named, ↓reduceIte, Nat.reduceEqDiff, Nat.reduceAdd, Nat.reduceLT, Nat.reduceMul]
    rfl


theorem e_page_named {x0 : Int} {o : Bool} (h : S_page_named x0 = some o) : AF (tabOf p) i_page_named [.p (.i .i64 x0)] [] = d_page_named o :=
  (AF_rk (tabOf p) (t_page_named p) rfl).trans (e_page_named_top p h)

/-! pagemend/codec.remainders -/

def d_codec_remainders  (r : (Vector Int 16)) : Option Res := some (.data ((e_ar (r_i .u32)) r), [])

def d_codec_remainders_3 (b0 : Vector Int 16) (o : (Int × (Vector Int 16)) ⊕ ((Vector Int 16))) : Option Res := match o with
  | .inl s => rk (tabOf p) f_codec_remainders 0 [.bl 0, .sq (.keep [0, 1] c_codec_remainders_4)] (X (tabOf p) (.lp 2 [0, 1, 4] c_codec_remainders_3) ⟨[(0, .ptr 0 0), (1, .ptr 1 0), (4, .p (.i .i64 s.1))], [.box (List.map AV.p ((e_ar (r_i .u32)) b0)), .box (List.map AV.p ((e_ar (r_i .u32)) s.2))]⟩)
  | .inr o => d_codec_remainders o

def d_codec_remainders_0 (x2 : Int) (x4 : Int) (b0 : Vector Int 16) (b1 : Vector Int 16) (o : (Int × Int) ⊕ (((Int × (Vector Int 16)) ⊕ ((Vector Int 16))))) : Option Res := match o with
  | .inl s => rk (tabOf p) f_codec_remainders 0 [.bl 2, .sq (.keep [0, 1, 2, 3, 4] c_codec_remainders_1), .bl 1, .sq (.keep [0, 1, 4] c_codec_remainders_2), .lo 2 [0, 1, 4] c_codec_remainders_3, .bl 0, .sq (.keep [0, 1] c_codec_remainders_4)] (X (tabOf p) (.lp 2 [0, 1, 2, 3, 4, 9] c_codec_remainders_0) ⟨[(0, .ptr 0 0), (1, .ptr 1 0), (2, .p (.i .i64 x2)), (3, .p (.i .u32 s.1)), (4, .p (.i .i64 x4)), (9, .p (.i .i64 s.2))], [.box (List.map AV.p ((e_ar (r_i .u32)) b0)), .box (List.map AV.p ((e_ar (r_i .u32)) b1))]⟩)
  | .inr o => (d_codec_remainders_3 p b0) o

def S_codec_remainders_2 (x4 : Int) (b0 : Vector Int 16) (b1 : Vector Int 16) : Option (((Int × (Vector Int 16)) ⊕ ((Vector Int 16)))) :=
  some (.inl ((IntKind.wrap .i64 (x4 + 1)), b1))

theorem e_codec_remainders_2 {x4 : Int} {b0 : Vector Int 16} {b1 : Vector Int 16} {o : ((Int × (Vector Int 16)) ⊕ ((Vector Int 16)))} (h : S_codec_remainders_2 x4 b0 b1 = some o) :
    rk (tabOf p) f_codec_remainders 0 [.lo 2 [0, 1, 4] c_codec_remainders_3, .bl 0, .sq (.keep [0, 1] c_codec_remainders_4)] (X (tabOf p) c_codec_remainders_2 ⟨[(0, .ptr 0 0), (1, .ptr 1 0), (4, .p (.i .i64 x4))], [.box (List.map AV.p ((e_ar (r_i .u32)) b0)), .box (List.map AV.p ((e_ar (r_i .u32)) b1))]⟩) = (d_codec_remainders_3 p b0) o := by
  unfold S_codec_remainders_2 at h
  obtain rfl := Option.some.inj h
  simp only [↓Da1, ↓Da2, ↓Da3, Ua1, Ua2, Ua3, Ua4, Ua5, Ua6, Ua7, Ua8, Ua9, Ua10, Ua11, c_codec_remainders_2, ↓reduceIte, Nat.reduceEqDiff, Nat.reduceAdd, Nat.reduceLT, Nat.reduceMul]
  rfl


def S_codec_remainders_1 (x2 : Int) (x3 : Int) (x4 : Int) (b0 : Vector Int 16) (b1 : Vector Int 16) : Option (((Int × (Vector Int 16)) ⊕ ((Vector Int 16)))) :=
  Option.bind (inb 16 x2) fun u1 =>
  Option.bind (vget b1 x2) fun y4 =>
  S_codec_remainders_2 x4 b0 (vset b1 x2 x3)

theorem e_codec_remainders_1 {x2 : Int} {x3 : Int} {x4 : Int} {b0 : Vector Int 16} {b1 : Vector Int 16} {o : ((Int × (Vector Int 16)) ⊕ ((Vector Int 16)))} (h : S_codec_remainders_1 x2 x3 x4 b0 b1 = some o) :
    rk (tabOf p) f_codec_remainders 0 [.bl 1, .sq (.keep [0, 1, 4] c_codec_remainders_2), .lo 2 [0, 1, 4] c_codec_remainders_3, .bl 0, .sq (.keep [0, 1] c_codec_remainders_4)] (X (tabOf p) c_codec_remainders_1 ⟨[(0, .ptr 0 0), (1, .ptr 1 0), (2, .p (.i .i64 x2)), (3, .p (.i .u32 x3)), (4, .p (.i .i64 x4))], [.box (List.map AV.p ((e_ar (r_i .u32)) b0)), .box (List.map AV.p ((e_ar (r_i .u32)) b1))]⟩) = (d_codec_remainders_3 p b0) o := by
  unfold S_codec_remainders_1 at h
  obtain ⟨u1, h2, h⟩ := Option.bind_eq_some_iff.1 h
  have f3 : (0 ≤ (x2 : Int) ∧ (x2 : Int) < ((16 : Nat) : Int)) = True := eq_true (inb_iff h2)
  obtain ⟨y4, h5, h⟩ := Option.bind_eq_some_iff.1 h
  have f6 : spl ((e_ar (r_i .u32)) b1) (Int.toNat x2 * 1) ((r_i .u32) x3) = some ((e_ar (r_i .u32)) (vset b1 x2 x3)) := by
    have e0 := (ar_spl (v := b1) (r_i_len .u32) (vget_lt h5) x3)
    exact e0
  try simp only [Nf] at f6
  simp only [↓Da1, ↓Da2, ↓Da3, Ua1, Ua2, Ua3, Ua4, Ua5, Ua6, Ua7, Ua8, Ua9, Ua10, Ua11, c_codec_remainders_1, f3, f6, ↓reduceIte, Nat.reduceEqDiff, Nat.reduceAdd, Nat.reduceLT, Nat.reduceMul]
  have e0 := e_codec_remainders_2 p h
  exact e0


def S_codec_remainders_0 (x2 : Int) (x4 : Int) (b0 : Vector Int 16) (b1 : Vector Int 16) (x3 : Int) (x9 : Int) : Option (((Int × Int) ⊕ (((Int × (Vector Int 16)) ⊕ ((Vector Int 16)))))) :=
  if (decide (x9 < 4)) then
    if (((andI .u32 x3 1) : Int) == 1) then
      Option.bind (shrS .u32 x3 1) fun q3 =>
      some (.inl ((xorI .u32 q3 2197175160), (IntKind.wrap .i64 (x9 + 1))))
    else
      Option.bind (shrS .u32 x3 1) fun q5 =>
      some (.inl (q5, (IntKind.wrap .i64 (x9 + 1))))
  else
    Option.map (fun o => .inr o) (S_codec_remainders_1 x2 x3 x4 b0 b1)

theorem e_codec_remainders_0 {x2 : Int} {x4 : Int} {b0 : Vector Int 16} {b1 : Vector Int 16} {x3 : Int} {x9 : Int} {o : ((Int × Int) ⊕ (((Int × (Vector Int 16)) ⊕ ((Vector Int 16)))))} (h : S_codec_remainders_0 x2 x4 b0 b1 x3 x9 = some o) :
    rk (tabOf p) f_codec_remainders 0 [.lo 2 [0, 1, 2, 3, 4, 9] c_codec_remainders_0, .bl 2, .sq (.keep [0, 1, 2, 3, 4] c_codec_remainders_1), .bl 1, .sq (.keep [0, 1, 4] c_codec_remainders_2), .lo 2 [0, 1, 4] c_codec_remainders_3, .bl 0, .sq (.keep [0, 1] c_codec_remainders_4)] (X (tabOf p) c_codec_remainders_0 ⟨[(0, .ptr 0 0), (1, .ptr 1 0), (2, .p (.i .i64 x2)), (3, .p (.i .u32 x3)), (4, .p (.i .i64 x4)), (9, .p (.i .i64 x9))], [.box (List.map AV.p ((e_ar (r_i .u32)) b0)), .box (List.map AV.p ((e_ar (r_i .u32)) b1))]⟩) = (d_codec_remainders_0 p x2 x4 b0 b1) o := by
  unfold S_codec_remainders_0 at h
  rcases ite_inv h with ⟨h1, h⟩ | ⟨h1, h⟩
  · rcases ite_inv h with ⟨h2, h⟩ | ⟨h2, h⟩
    · obtain ⟨q3, h4, h⟩ := Option.bind_eq_some_iff.1 h
      obtain rfl := Option.some.inj h
      simp only [↓Da1, ↓Da2, ↓Da3, Ua1, Ua2, Ua3, Ua4, Ua5, Ua6, Ua7, Ua8, Ua9, Ua10, Ua11, c_codec_remainders_0, h1, h2, h4, ↓reduceIte, Nat.reduceEqDiff, Nat.reduceAdd, Nat.reduceLT, Nat.reduceMul]
      rfl
    · obtain ⟨q5, h6, h⟩ := Option.bind_eq_some_iff.1 h
      obtain rfl := Option.some.inj h
      simp only [↓Da1, ↓Da2, ↓Da3, Ua1, Ua2, Ua3, Ua4, Ua5, Ua6, Ua7, Ua8, Ua9, Ua10, Ua11, c_codec_remainders_0, h1, h2, h6, ↓reduceIte, Nat.reduceEqDiff, Nat.reduceAdd, Nat.reduceLT, Nat.reduceMul]
      rfl
  · obtain ⟨o', h', rfl⟩ := Option.map_eq_some_iff.1 h
    simp only [↓Da1, ↓Da2, ↓Da3, Ua1, Ua2, Ua3, Ua4, Ua5, Ua6, Ua7, Ua8, Ua9, Ua10, Ua11, c_codec_remainders_0, h1, ↓reduceIte, Nat.reduceEqDiff, Nat.reduceAdd, Nat.reduceLT, Nat.reduceMul]
    have e0 := e_codec_remainders_1 p h'
    exact e0


def W_codec_remainders_0 (x2 : Int) (x4 : Int) (b0 : Vector Int 16) (b1 : Vector Int 16) (s : Int × Int) : Option (((Int × (Vector Int 16)) ⊕ ((Vector Int 16)))) :=
  whileO (fun s => S_codec_remainders_0 x2 x4 b0 b1 s.1 s.2) s

theorem e_codec_remainders_0_w {x2 : Int} {x4 : Int} {b0 : Vector Int 16} {b1 : Vector Int 16} {s : Int × Int} {o : ((Int × (Vector Int 16)) ⊕ ((Vector Int 16)))} (h : W_codec_remainders_0 x2 x4 b0 b1 s = some o) :
    rk (tabOf p) f_codec_remainders 0 [.bl 2, .sq (.keep [0, 1, 2, 3, 4] c_codec_remainders_1), .bl 1, .sq (.keep [0, 1, 4] c_codec_remainders_2), .lo 2 [0, 1, 4] c_codec_remainders_3, .bl 0, .sq (.keep [0, 1] c_codec_remainders_4)] (X (tabOf p) (.lp 2 [0, 1, 2, 3, 4, 9] c_codec_remainders_0) ⟨[(0, .ptr 0 0), (1, .ptr 1 0), (2, .p (.i .i64 x2)), (3, .p (.i .u32 s.1)), (4, .p (.i .i64 x4)), (9, .p (.i .i64 s.2))], [.box (List.map AV.p ((e_ar (r_i .u32)) b0)), .box (List.map AV.p ((e_ar (r_i .u32)) b1))]⟩) = (d_codec_remainders_3 p b0) o := by
  have h0 : whileO (fun s => S_codec_remainders_0 x2 x4 b0 b1 s.1 s.2) s = some o := h
  exact while_ind (P := fun (s : Int × Int) (o : ((Int × (Vector Int 16)) ⊕ ((Vector Int 16)))) => rk (tabOf p) f_codec_remainders 0 [.bl 2, .sq (.keep [0, 1, 2, 3, 4] c_codec_remainders_1), .bl 1, .sq (.keep [0, 1, 4] c_codec_remainders_2), .lo 2 [0, 1, 4] c_codec_remainders_3, .bl 0, .sq (.keep [0, 1] c_codec_remainders_4)] (X (tabOf p) (.lp 2 [0, 1, 2, 3, 4, 9] c_codec_remainders_0) ⟨[(0, .ptr 0 0), (1, .ptr 1 0), (2, .p (.i .i64 x2)), (3, .p (.i .u32 s.1)), (4, .p (.i .i64 x4)), (9, .p (.i .i64 s.2))], [.box (List.map AV.p ((e_ar (r_i .u32)) b0)), .box (List.map AV.p ((e_ar (r_i .u32)) b1))]⟩) = (d_codec_remainders_3 p b0) o) (fun s r hs => by rw [rk_lp]; exact e_codec_remainders_0 p hs) (fun s s1 r hs ih => by rw [rk_lp]; exact (e_codec_remainders_0 p hs).trans ih) h0

def S_codec_remainders_4 (b0 : Vector Int 16) (b1 : Vector Int 16) : Option ((Vector Int 16)) :=
  some b1

theorem e_codec_remainders_4 {b0 : Vector Int 16} {b1 : Vector Int 16} {o : (Vector Int 16)} (h : S_codec_remainders_4 b0 b1 = some o) :
    rk (tabOf p) f_codec_remainders 0 [] (X (tabOf p) c_codec_remainders_4 ⟨[(0, .ptr 0 0), (1, .ptr 1 0)], [.box (List.map AV.p ((e_ar (r_i .u32)) b0)), .box (List.map AV.p ((e_ar (r_i .u32)) b1))]⟩) = d_codec_remainders o := by
  unfold S_codec_remainders_4 at h
  obtain rfl := Option.some.inj h
  simp only [↓Da1, ↓Da2, ↓Da3, Ua1, Ua2, Ua3, Ua4, Ua5, Ua6, Ua7, Ua8, Ua9, Ua10, Ua11, c_codec_remainders_4, B_ar_earriu3216, z_codec_remainders, ↓reduceIte, Nat.reduceEqDiff, Nat.reduceAdd, Nat.reduceLT, Nat.reduceMul]
  rfl


def S_codec_remainders_3 (b0 : Vector Int 16) (x4 : Int) (b1 : Vector Int 16) : Option (((Int × (Vector Int 16)) ⊕ ((Vector Int 16)))) :=
  if (decide (x4 < 16)) then
    W_codec_remainders_0 x4 x4 b0 b1 ((IntKind.wrap .u32 x4), 0)
  else
    Option.map (fun o => .inr o) (S_codec_remainders_4 b0 b1)

theorem e_codec_remainders_3 {b0 : Vector Int 16} {x4 : Int} {b1 : Vector Int 16} {o : ((Int × (Vector Int 16)) ⊕ ((Vector Int 16)))} (h : S_codec_remainders_3 b0 x4 b1 = some o) :
    rk (tabOf p) f_codec_remainders 0 [.lo 2 [0, 1, 4] c_codec_remainders_3, .bl 0, .sq (.keep [0, 1] c_codec_remainders_4)] (X (tabOf p) c_codec_remainders_3 ⟨[(0, .ptr 0 0), (1, .ptr 1 0), (4, .p (.i .i64 x4))], [.box (List.map AV.p ((e_ar (r_i .u32)) b0)), .box (List.map AV.p ((e_ar (r_i .u32)) b1))]⟩) = (d_codec_remainders_3 p b0) o := by
  unfold S_codec_remainders_3 at h
  rcases ite_inv h with ⟨h1, h⟩ | ⟨h1, h⟩
  · simp only [↓Da1, ↓Da2, ↓Da3, Ua1, Ua2, Ua3, Ua4, Ua5, Ua6, Ua7, Ua8, Ua9, Ua10, Ua11, c_codec_remainders_3, h1, ↓reduceIte, Nat.reduceEqDiff, Nat.reduceAdd, Nat.reduceLT, Nat.reduceMul]
    have e0 := e_codec_remainders_0_w p h
    exact e0
  · obtain ⟨o', h', rfl⟩ := Option.map_eq_some_iff.1 h
    simp only [↓Da1, ↓Da2, ↓Da3, Ua1, Ua2, Ua3, Ua4, Ua5, Ua6, Ua7, Ua8, Ua9, Ua10, Ua11, c_codec_remainders_3, h1, ↓reduceIte, Nat.reduceEqDiff, Nat.reduceAdd, Nat.reduceLT, Nat.reduceMul]
    have e0 := e_codec_remainders_4 p h'
    exact e0


def W_codec_remainders_3 (b0 : Vector Int 16) (s : Int × (Vector Int 16)) : Option ((Vector Int 16)) :=
  whileO (fun s => S_codec_remainders_3 b0 s.1 s.2) s

theorem e_codec_remainders_3_w {b0 : Vector Int 16} {s : Int × (Vector Int 16)} {o : (Vector Int 16)} (h : W_codec_remainders_3 b0 s = some o) :
    rk (tabOf p) f_codec_remainders 0 [.bl 0, .sq (.keep [0, 1] c_codec_remainders_4)] (X (tabOf p) (.lp 2 [0, 1, 4] c_codec_remainders_3) ⟨[(0, .ptr 0 0), (1, .ptr 1 0), (4, .p (.i .i64 s.1))], [.box (List.map AV.p ((e_ar (r_i .u32)) b0)), .box (List.map AV.p ((e_ar (r_i .u32)) s.2))]⟩) = d_codec_remainders o := by
  have h0 : whileO (fun s => S_codec_remainders_3 b0 s.1 s.2) s = some o := h
  exact while_ind (P := fun (s : Int × (Vector Int 16)) (o : (Vector Int 16)) => rk (tabOf p) f_codec_remainders 0 [.bl 0, .sq (.keep [0, 1] c_codec_remainders_4)] (X (tabOf p) (.lp 2 [0, 1, 4] c_codec_remainders_3) ⟨[(0, .ptr 0 0), (1, .ptr 1 0), (4, .p (.i .i64 s.1))], [.box (List.map AV.p ((e_ar (r_i .u32)) b0)), .box (List.map AV.p ((e_ar (r_i .u32)) s.2))]⟩) = d_codec_remainders o) (fun s r hs => by rw [rk_lp]; exact e_codec_remainders_3 p hs) (fun s s1 r hs ih => by rw [rk_lp]; exact (e_codec_remainders_3 p hs).trans ih) h0

def S_codec_remainders  : Option ((Vector Int 16)) :=
  W_codec_remainders_3 (Vector.replicate 16 0) (0, (Vector.replicate 16 0))

theorem e_codec_remainders_top  {o : (Vector Int 16)} (h : S_codec_remainders = some o) :
    rk (tabOf p) f_codec_remainders 0 [] (X (tabOf p) c_codec_remainders ⟨[], []⟩) = d_codec_remainders o := by
  unfold S_codec_remainders at h
  simp only [↓Da1, ↓Da2, ↓Da3, Ua1, Ua2, Ua3, Ua4, Ua5, Ua6, Ua7, Ua8, Ua9, Ua10, Ua11, c_codec_remainders, B_ar_earriu3216, ↓reduceIte, Nat.reduceEqDiff, Nat.reduceAdd, Nat.reduceLT, Nat.reduceMul]
  have e0 := e_codec_remainders_3_w p h
  exact e0


theorem e_codec_remainders  {o : (Vector Int 16)} (h : S_codec_remainders = some o) : AF (tabOf p) i_codec_remainders [] [] = d_codec_remainders o :=
  (AF_rk (tabOf p) (t_codec_remainders p) rfl).trans (e_codec_remainders_top p h)


end
end Go.Am
