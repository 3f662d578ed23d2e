/-
  The law, in plain terms.
-/
import Derived.Test.YteiakclfpfmigaaS2
set_option linter.unusedSimpArgs false
set_option linter.unusedVariables false
namespace Go.Am

theorem wrap64 {n : Int} (h1 : -9223372036854775808 ≤ n) (h2 : n ≤ 9223372036854775807) : IntKind.i64.wrap n = n := by
  simp [IntKind.wrap_i64]; omega

theorem wrapu64 {n : Int} (h1 : 0 ≤ n) (h2 : n < 18446744073709551616) : IntKind.u64.wrap n = n := by
  rw [show IntKind.u64.wrap n = n % 18446744073709551616 by simp [IntKind.wrap, IntKind.bits, IntKind.signed]]; omega

theorem idx_nat {α : Type} (l : List α) (k : Nat) : idx l (k : Int) = l[k]? := by simp [idx]

theorem vget_nat {α : Type} {n : Nat} (v : Vector α n) (k : Nat) (h : k < n) : vget v (k : Int) = some v[k] := by
  have e : (0 : Int) ≤ k ∧ (k : Int) < n := by omega
  simp [vget, e, h]

theorem inb_nat {n k : Nat} (h : k < n) : inb n (k : Int) = some () := by
  have e : (0 : Int) ≤ k ∧ (k : Int) < n := by omega
  simp [inb, e]

theorem succ64 {k : Nat} (h : k < 1000000) : IntKind.i64.wrap ((k : Int) + 1) = ((k + 1 : Nat) : Int) := by
  rw [wrap64 (by omega) (by omega)]; simp

theorem while_total {σ ρ : Type} {f : σ → Option (σ ⊕ ρ)} (I : σ → Prop) (m : σ → Nat) (Q : ρ → Prop)
    (h : ∀ s, I s → (∃ s', f s = some (.inl s') ∧ I s' ∧ m s' < m s) ∨ (∃ r, f s = some (.inr r) ∧ Q r)) : ∀ s, I s → ∃ r, whileO f s = some r ∧ Q r := by
  have key : ∀ n s, m s ≤ n → I s → ∃ r, whileO f s = some r ∧ Q r := by
    intro n
    induction n with
    | zero =>
      intro s hm hs
      rcases h s hs with ⟨s', e, hs', hlt⟩ | ⟨r, e, hq⟩
      · omega
      · exact ⟨r, while_done e, hq⟩
    | succ n ih =>
      intro s hm hs
      rcases h s hs with ⟨s', e, hs', hlt⟩ | ⟨r, e, hq⟩
      · obtain ⟨r, hr, hq⟩ := ih s' (by omega) hs'
        exact ⟨r, (while_next e).trans hr, hq⟩
      · exact ⟨r, while_done e, hq⟩
  exact fun s hs => key (m s) s (Nat.le_refl _) hs

/-! ### Choices -/

structure CodesOk (b : T_pagemenddraw_Codes) : Prop where
  at0 : 0 ≤ b.at_
  at1 : b.at_ ≤ b.l_.length
  len : b.l_.length ≤ 1000
  byte : ∀ x ∈ b.l_, 0 ≤ x ∧ x ≤ 255

theorem next_small {b : T_pagemenddraw_Codes} (hb : CodesOk b) {n : Int} (h1 : 1 ≤ n) (h2 : n ≤ 256) (m : Nat) : ∃ r b', S_draw_Codes_Next_N (m + 1) b n = some (r, b') ∧ CodesOk b' ∧ 0 ≤ r ∧ r < n := by
  obtain ⟨ha, hb1, hl, hx⟩ := hb
  simp only [S_draw_Codes_Next_N, S_draw_Codes_Next_R]
  by_cases hc : b.at_ ≥ (b.l_.length : Int)
  · exact ⟨0, b, by simp [hc], ⟨ha, hb1, hl, hx⟩, by omega, by omega⟩
  · obtain ⟨k, hk⟩ : ∃ k : Nat, b.at_ = (k : Int) := ⟨b.at_.toNat, by omega⟩
    have hk2 : k < b.l_.length := by omega
    have hy := hx _ (List.getElem_mem hk2)
    have e1 : ¬ n < 1 := by omega
    have e2 : ¬ n > 256 := by omega
    have e3 : idx b.l_ b.at_ = some b.l_[k] := by rw [hk, idx_nat, List.getElem?_eq_getElem hk2]
    have e4 : ¬ n = 0 := by omega
    refine ⟨(b.l_[k]).tmod n, ⟨b.l_, b.at_ + 1⟩, ?_, ⟨by show 0 ≤ b.at_ + 1; omega, by show b.at_ + 1 ≤ (b.l_.length : Int); omega, hl, hx⟩, Int.tmod_nonneg _ hy.1, Int.tmod_lt_of_pos _ (by omega)⟩
    simp only [hc, decide_false, e1, e2, e3, Option.bind_some, remS, e4, if_false, Bool.false_eq_true]
    rw [wrap64 (by omega) (by omega), wrap64 (by omega) (by omega)]

theorem next_ok {b : T_pagemenddraw_Codes} (hb : CodesOk b) {n : Int} (h1 : 1 ≤ n) (h2 : n ≤ 256) : ∃ r b', S_draw_Codes_Next b n = some (r, b') ∧ CodesOk b' ∧ 0 ≤ r ∧ r < n := next_small hb h1 h2 11

theorem new_ok {l : List Int} (h : ∀ x ∈ l, 0 ≤ x ∧ x ≤ 255) {n : Nat} (hn : n ≤ 1000) : ∃ b, S_draw_New l (n : Int) = some b ∧ CodesOk b := by
  unfold S_draw_New S_draw_New_0
  by_cases hc : (l.length : Int) > n
  · have : slcS l none (some (n : Int)) = some (l.take n) := by
      have e1 : (0 : Int) ≤ n ∧ n ≤ l.length := by omega
      have e2 : n ≤ l.length := by omega
      simp [slcS, cutS, bndS, e2]
    refine ⟨⟨l.take n, 0⟩, by simp [hc, this], ⟨by show (0 : Int) ≤ 0; omega, by show (0 : Int) ≤ _; omega, by simp; omega, fun x hx => h x (List.mem_of_mem_take hx)⟩⟩
  · exact ⟨⟨l, 0⟩, by simp [hc], ⟨by show (0 : Int) ≤ 0; omega, by show (0 : Int) ≤ _; omega, by show l.length ≤ 1000; omega, h⟩⟩

theorem data_ok {b : T_pagemenddraw_Codes} (hb : CodesOk b) {n : Int} (h0 : 0 ≤ n) (h1 : n ≤ 20) : ∃ s b', S_draw_Codes_Data_2 n b = some (s, b') ∧ CodesOk b' := by
  have e0 : mkS 1 0 n (0 : Int) = some [] := by
    have : (0 : Int) ≤ n ∧ 1 * n ≤ 281474976710656 ∧ n ≤ 281474976710656 := by omega
    simp [mkS]; omega
  unfold S_draw_Codes_Data_2
  simp only [e0, Option.bind_some]
  obtain ⟨r, hr, hq⟩ := while_total (f := fun s : Int × T_pagemenddraw_Codes × List Int => S_draw_Codes_Data_0 n s.1 s.2.1 s.2.2)
    (fun s => ∃ k : Nat, s.1 = k ∧ (k : Int) ≤ n ∧ CodesOk s.2.1 ∧ s.2.2.length = k) (fun s => (n - s.1).toNat) (fun r => CodesOk r.2)
    (fun s ⟨k, hk, hn, hc, hl⟩ => by
      obtain ⟨i, b, l⟩ := s
      simp only at hk hc hl
      subst hk
      by_cases hlt : (k : Int) < n
      · left
        obtain ⟨r, b', e1, hb', _, _⟩ := next_ok hc (n := 3) (by omega) (by omega)
        have e2 : roomy (l.length + 1) 1 = true := by simp [roomy]; omega
        have e3 : ∀ z : Int, appS 1 l [z] = some (l ++ [z]) := fun z => by simp only [appS, List.length_cons, List.length_nil, Nat.zero_add, e2, if_true]
        refine ⟨⟨((k + 1 : Nat) : Int), b', l ++ [IntKind.wrap .u8 (IntKind.wrap .i64 (97 + r))]⟩, ?_, ⟨k + 1, rfl, by simp; omega, hb', by simp [hl]⟩, by simp; omega⟩
        simp only [S_draw_Codes_Data_0, hlt, decide_true, if_true, e1, e3, Option.bind_some, succ64 (show k < 1000000 by omega)]
      · right
        refine ⟨(toStr l, b), ?_, hc⟩
        simp [S_draw_Codes_Data_0, S_draw_Codes_Data_1, hlt])
    (0, b, []) ⟨0, rfl, by simpa using h0, hb, rfl⟩
  exact ⟨r.1, r.2, hr, hq⟩

def CellFit (c : T_api_Cell) : Prop := c.Data.length ≤ 12 ∧ (c.Set = false → c.Data = [])

theorem cell_draw {b : T_pagemenddraw_Codes} (hb : CodesOk b) : ∃ c b', S_draw_Codes_Cell b = some (c, b') ∧ CodesOk b' ∧ CellFit c := by
  obtain ⟨r, b1, e1, hb1, _, _⟩ := next_ok hb (n := 3) (by omega) (by omega)
  unfold S_draw_Codes_Cell
  simp only [e1, Option.bind_some]
  by_cases h0 : r = 0
  · exact ⟨⟨false, []⟩, b1, by simp [h0], hb1, by simp [CellFit]⟩
  · have hd : ∃ s b', S_draw_Codes_Data b1 = some (s, b') ∧ CodesOk b' := by
      unfold S_draw_Codes_Data
      obtain ⟨r1, b2, e2, hb2, h21, h22⟩ := next_ok hb1 (n := 5) (by omega) (by omega)
      obtain ⟨r2, b3, e3, hb3, _, _⟩ := next_ok hb2 (n := 6) (by omega) (by omega)
      simp only [e2, e3, Option.bind_some]
      by_cases h6 : r2 = 0
      · obtain ⟨r3, b4, e4, hb4, h41, h42⟩ := next_ok hb3 (n := 14) (by omega) (by omega)
        obtain ⟨s, b5, e5, hb5⟩ := data_ok hb4 h41 (by omega)
        exact ⟨s, b5, by simp [h6, e4, e5], hb5⟩
      · obtain ⟨s, b5, e5, hb5⟩ := data_ok hb3 h21 (by omega)
        exact ⟨s, b5, by simp [h6, e5], hb5⟩
    obtain ⟨s, b2, e2, hb2⟩ := hd
    have e3 : slcS s none (some (minI (s.length : Int) 12)) = some (s.take (min s.length 12)) := by
      have e4 : minI (s.length : Int) 12 = ((min s.length 12 : Nat) : Int) := by unfold minI; split <;> omega
      have e5 : min s.length 12 ≤ s.length := by omega
      rw [e4]
      simp only [slcS, cutS, bndS]
      have e6 : (0 : Int) ≤ ((min s.length 12 : Nat) : Int) ∧ ((min s.length 12 : Nat) : Int) ≤ ((s.length : Nat) : Int) := by omega
      simp only [e6, and_self, if_true, Int.toNat_natCast, List.drop_zero, Nat.sub_zero]
    refine ⟨⟨true, s.take (min s.length 12)⟩, b2, ?_, hb2, ?_⟩
    · simp only [e2, Option.bind_some, e3]
      simp [h0]
    · refine ⟨?_, fun h => by cases h⟩
      simp only [List.length_take]; omega

def CellOk (lsn : Int) (c : T_api_Cell) : Prop := c.Data.length ≤ 12 ∧ (c.Set = false → c.Data = []) ∧ (c.Set = true → lsn ≠ 0)

structure PageOk (p : T_api_Page) : Prop where
  id0 : 0 ≤ p.ID
  id1 : p.ID < 64
  lsn0 : 0 ≤ p.LSN
  lsn1 : p.LSN ≤ 1099511627776
  cells : ∀ (i : Nat) (h : i < 16), CellOk p.LSN (p.Cells[i])

theorem blank_ok {id lsn : Int} (h0 : 0 ≤ id) (h1 : id < 64) (h2 : 0 ≤ lsn) (h3 : lsn ≤ 1099511627776) : PageOk ⟨id, lsn, Vector.replicate 16 ⟨false, []⟩⟩ :=
  ⟨h0, h1, h2, h3, fun i h => by simp [CellOk]⟩

theorem page_draw {b : T_pagemenddraw_Codes} (hb : CodesOk b) {id : Int} (h0 : 0 ≤ id) (h1 : id < 64) : ∃ p b', S_draw_Codes_Page b id = some (p, b') ∧ CodesOk b' ∧ PageOk p ∧ p.ID = id := by
  have go : ∀ (b : T_pagemenddraw_Codes) (lsn : Int) (b1 : T_api_Page), CodesOk b → 0 ≤ lsn → lsn ≤ 1099511627776 →
      ∃ p b', S_draw_Codes_Page_2 b b1 ⟨id, lsn, Vector.replicate 16 ⟨false, []⟩⟩ = some (p, b') ∧ CodesOk b' ∧ PageOk p ∧ p.ID = id := by
    intro b lsn b1 hb hl0 hl1
    unfold S_draw_Codes_Page_2
    by_cases hl : lsn > 0
    · obtain ⟨r, b2, e1, hb2, hr0, hr1⟩ := next_ok hb (n := 6) (by omega) (by omega)
      obtain ⟨o, ho, hq⟩ := while_total (f := fun s : Int × T_pagemenddraw_Codes × T_api_Page => S_draw_Codes_Page_0 b1 s.1 s.2.1 s.2.2)
        (fun s => 0 ≤ s.1 ∧ s.1 ≤ 6 ∧ CodesOk s.2.1 ∧ PageOk s.2.2 ∧ s.2.2.ID = id ∧ s.2.2.LSN = lsn) (fun s => s.1.toNat) (fun r => CodesOk r.2 ∧ PageOk r.1 ∧ r.1.ID = id)
        (fun s ⟨i0, i1, hc, hp, hid, hlsn⟩ => by
          obtain ⟨i, b, p⟩ := s
          simp only at i0 i1 hc hp hid hlsn
          by_cases hi : i > 0
          · left
            obtain ⟨r, b2, e1, hb2, hr0, hr1⟩ := next_ok hc (n := 16) (by omega) (by omega)
            obtain ⟨c, b3, e2, hb3, hcf⟩ := cell_draw hb2
            obtain ⟨k, rfl⟩ : ∃ k : Nat, r = (k : Int) := ⟨r.toNat, by omega⟩
            have hk : k < 16 := by omega
            refine ⟨⟨i - 1, b3, ⟨p.ID, p.LSN, vset p.Cells (k : Int) c⟩⟩, ?_, ⟨by show 0 ≤ i - 1; omega, by show i - 1 ≤ 6; omega, hb3, ?_, hid, hlsn⟩, by show (i - 1).toNat < i.toNat; omega⟩
            · simp only [S_draw_Codes_Page_0, hi, decide_true, if_true, e1, e2, Option.bind_some, inb_nat hk, vget_nat _ k hk, wrap64 (show -9223372036854775808 ≤ i - 1 by omega) (by omega)]
            · refine ⟨hp.id0, hp.id1, hp.lsn0, hp.lsn1, fun j hj => ?_⟩
              show CellOk p.LSN ((vset p.Cells (k : Int) c)[j])
              simp only [vset, Int.toNat_natCast, Vector.getElem_setIfInBounds]
              split
              · exact ⟨hcf.1, hcf.2, fun _ => by rw [hlsn]; omega⟩
              · exact hp.cells j hj
          · right
            exact ⟨(p, b), by simp [S_draw_Codes_Page_0, S_draw_Codes_Page_1, hi], hc, hp, hid⟩)
        (r, b2, ⟨id, lsn, Vector.replicate 16 ⟨false, []⟩⟩) ⟨hr0, by show r ≤ 6; omega, hb2, blank_ok h0 h1 hl0 hl1, rfl, rfl⟩
      refine ⟨o.1, o.2, ?_, hq.1, hq.2⟩
      simp only [hl, decide_true, if_true, e1, Option.bind_some]
      exact ho
    · exact ⟨_, b, by simp [hl, S_draw_Codes_Page_1], hb, blank_ok h0 h1 hl0 hl1, rfl⟩
  obtain ⟨r, b1, e1, hb1, hr0, hr1⟩ := next_ok hb (n := 50) (by omega) (by omega)
  obtain ⟨r2, b2, e2, hb2, _, _⟩ := next_ok hb1 (n := 10) (by omega) (by omega)
  unfold S_draw_Codes_Page
  simp only [e1, e2, Option.bind_some]
  by_cases h9 : r2 = 9
  · obtain ⟨r3, b3, e3, hb3, h30, h31⟩ := next_ok hb2 (n := 2) (by omega) (by omega)
    have e4 : IntKind.wrap .i64 (1099511627776 - r3) = 1099511627776 - r3 := wrap64 (by omega) (by omega)
    simp only [h9, e3, Option.bind_some, e4]
    exact go b3 _ _ hb3 (by omega) (by omega)
  · have e5 : ((r2 : Int) == 9) = false := by simpa using h9
    simp only [e5, Bool.false_eq_true, if_false]
    exact go b2 _ _ hb2 (by omega) (by omega)

end Go.Am
