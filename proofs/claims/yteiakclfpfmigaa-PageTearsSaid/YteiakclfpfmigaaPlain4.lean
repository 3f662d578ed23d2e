/-
  The law, in plain terms: two versions of a page, cut anywhere.
-/
import Derived.Test.YteiakclfpfmigaaPlain3
set_option linter.unusedSimpArgs false
set_option linter.unusedVariables false
namespace Go.Am

def blk : List UInt8 := List.replicate 256 0
theorem blk_len : blk.length = 256 := by decide +kernel
theorem blk_take : blk.take 8 = numS 0 8 := by decide +kernel
theorem blk_drop : blk.drop 248 = numS 0 8 := by decide +kernel

theorem blank_bytes : S_page_Blank = some blk := by
  unfold S_page_Blank
  rw [zeros_ok (n := 256) (by omega) (by omega)]
  rfl

theorem decode_any (x : List UInt8) (hx : x.length = 256) : ∃ r, S_page_Decode x = some r ∧ (r.2 = 0 ∨ r.2 = 7 → x.take 8 = x.drop 248) := by
  unfold S_page_Decode
  have e0 : (((x.length : Nat) : Int) != 256) = false := by rw [hx]; rfl
  have e1 : slcS x none (some 8) = some (x.take 8) := slc_to x (b := 8) (by omega)
  have e2 : slcS x (some 248) none = some (x.drop 248) := slc_from x (a := 248) (by omega)
  have e3 : slcS x none (some 244) = some (x.take 244) := slc_to x (b := 244) (by omega)
  obtain ⟨n, e4⟩ := number_any x (by omega) (at_ := 244) (k := 4) (by omega) (by omega) (by omega)
  have e4' : S_page_number x 244 4 = some n := e4
  obtain ⟨c, e5⟩ := sum_ok (x.take 244) (by simp; omega)
  obtain ⟨p, e6⟩ := read_any x hx
  obtain ⟨q, e7, _⟩ := encode_any p.1
  simp only [e0, Bool.false_eq_true, if_false, blank_bytes, Option.bind_some]
  by_cases hb : x = blk
  · refine ⟨_, by rw [if_pos (by simpa using hb)], fun _ => ?_⟩
    rw [hb, blk_take, blk_drop]
  · have hb' : (x == blk) = false := by simpa using hb
    simp only [hb', Bool.false_eq_true, if_false, e1, e2, Option.bind_some]
    by_cases hp : x.take 8 = x.drop 248
    · have hp' : (x.take 8 == x.drop 248) = true := by simpa using hp
      simp only [hp', if_true, e4', e3, e5, e6, e7, Option.bind_some]
      split
      · exact ⟨_, rfl, fun _ => hp⟩
      · split
        · split
          · exact ⟨_, rfl, fun _ => hp⟩
          · split
            · exact ⟨_, rfl, fun _ => hp⟩
            · exact ⟨_, rfl, fun _ => hp⟩
        · exact ⟨_, rfl, fun _ => hp⟩
    · have hp' : (x.take 8 == x.drop 248) = false := by simpa using hp
      simp only [hp', Bool.false_eq_true, if_false]
      exact ⟨_, rfl, fun h => by rcases h with h | h <;> cases h⟩

theorem identify_any (x : List UInt8) (hx : x.length = 256) {id : Int} (h0 : 0 ≤ id) (h1 : id < 64) :
    ∃ r, S_page_Identify x id = some r ∧ (r.2 = 0 → x.take 8 = x.drop 248 ∧ r.1.ID = id) := by
  obtain ⟨r, e1, hr⟩ := decode_any x hx
  have e0 : S_page_named id = some true := by simp [S_page_named, h0, h1]
  unfold S_page_Identify
  simp only [e0, e1, Option.bind_some, if_true]
  by_cases h7 : r.2 = 7
  · refine ⟨⟨⟨id, 0, Vector.replicate 16 ⟨false, []⟩⟩, 0⟩, by rw [if_pos (by simpa using h7)]; rfl, fun _ => ⟨hr (.inr h7), rfl⟩⟩
  · have e2 : (r.2 == 7) = false := by simpa using h7
    simp only [e2, Bool.false_eq_true, if_false]
    by_cases hz : r.2 = 0
    · have e3 : (r.2 != 0) = false := by simp [hz]
      simp only [e3, Bool.false_eq_true, if_false]
      by_cases hi : r.1.ID = id
      · have e4 : (r.1.ID != id) = false := by simp [hi]
        simp only [e4, Bool.false_eq_true, if_false]
        exact ⟨_, rfl, fun _ => ⟨hr (.inl hz), hi⟩⟩
      · have e4 : (r.1.ID != id) = true := by simpa using hi
        simp only [e4, if_true]
        exact ⟨_, rfl, fun h => by cases h⟩
    · have e3 : (r.2 != 0) = true := by simpa using hz
      simp only [e3, if_true]
      exact ⟨_, rfl, fun h => (hz h).elim⟩

/-- The first bytes of one version and the others of another one. -/
theorem torn {s t : List UInt8} (hs : s.length = 256) (ht : t.length = 256) (hs8 : s.take 8 = s.drop 248) (ht8 : t.take 8 = t.drop 248) (hne : s.take 8 ≠ t.take 8)
    {k : Nat} (hk : k ≤ 256) (hx : (s.take k ++ t.drop k).take 8 = (s.take k ++ t.drop k).drop 248) : s.take k ++ t.drop k = s ∨ s.take k ++ t.drop k = t := by
  have hl : (s.take k).length = k := by simp; omega
  have lo : ∀ j, j ≤ k → (s.take k ++ t.drop k).take j = s.take j := by
    intro j hj
    rw [List.take_append_of_le_length (by omega), List.take_take, Nat.min_eq_left hj]
  have hi : ∀ j, k ≤ j → (s.take k ++ t.drop k).drop j = t.drop j := by
    intro j hj
    rw [List.drop_append, List.drop_of_length_le (by omega), List.nil_append, hl, List.drop_drop]
    congr 1; omega
  by_cases h8 : k ≤ 8
  · right
    rw [hi 248 (by omega), ← ht8] at hx
    rw [← List.take_append_drop 8 (s.take k ++ t.drop k), hx, hi 8 h8, List.take_append_drop]
  · by_cases h248 : k ≤ 248
    · rw [lo 8 (by omega), hi 248 h248, ← ht8] at hx
      exact (hne hx).elim
    · left
      rw [lo 8 (by omega), hs8] at hx
      rw [← List.take_append_drop 248 (s.take k ++ t.drop k), lo 248 (by omega), ← hx, List.take_append_drop]

theorem tears_loop {s t : List UInt8} (hs : s.length = 256) (ht : t.length = 256) (hs8 : s.take 8 = s.drop 248) (ht8 : t.take 8 = t.drop 248) (hne : s.take 8 ≠ t.take 8)
    {id : Int} (h0 : 0 ≤ id) (h1 : id < 64) {x1 : Int} (hx0 : 0 ≤ x1) (hx1 : x1 ≤ 65535) : S_law02_PageTears_2 x1 id s 0 t 0 = some true := by
  obtain ⟨k, hk⟩ : ∃ k : Nat, x1.tmod 257 = (k : Int) := ⟨(x1.tmod 257).toNat, by have := Int.tmod_nonneg 257 hx0; omega⟩
  have hk2 : k ≤ 256 := by have := Int.tmod_lt_of_pos x1 (show (0 : Int) < 257 by omega); omega
  have e0 : remS (IntKind.wrap .i64 x1) 257 = some (k : Int) := by
    rw [wrap64 (by omega) (by omega)]
    simp [remS, hk]
  have a1 := slc_to s (b := k) (by omega)
  have a2 := slc_from t (a := k) (by omega)
  have a3 := slc_to t (b := k) (by omega)
  have a4 := slc_from s (a := k) (by omega)
  have c1 : catS (s.take k) (t.drop k) = some (s.take k ++ t.drop k) := cat_ok (by simp; omega) (by simp; omega)
  have c2 : catS (t.take k) (s.drop k) = some (t.take k ++ s.drop k) := cat_ok (by simp; omega) (by simp; omega)
  have l1 : (s.take k ++ t.drop k).length = 256 := by simp; omega
  have l2 : (t.take k ++ s.drop k).length = 256 := by simp; omega
  have n1 : (((s.length : Nat) : Int) != 256) = false := by rw [hs]; rfl
  have n2 : (((t.length : Nat) : Int) != 256) = false := by rw [ht]; rfl
  unfold S_law02_PageTears_2
  simp only [bne_self_eq_false, Bool.false_eq_true, if_false, n1, n2, e0, a1, a2, a3, a4, c1, c2, Option.bind_some]
  have good : ∀ x, x ∈ [s.take k ++ t.drop k, t.take k ++ s.drop k] → ∃ r, S_page_Identify x id = some r ∧ (r.2 = 0 → (x = s ∨ x = t) ∧ r.1.ID = id) := by
    intro x hx
    simp only [List.mem_cons, List.not_mem_nil, or_false] at hx
    rcases hx with rfl | rfl
    · obtain ⟨r, e, hr⟩ := identify_any _ l1 h0 h1
      exact ⟨r, e, fun h => ⟨torn hs ht hs8 ht8 hne hk2 (hr h).1, (hr h).2⟩⟩
    · obtain ⟨r, e, hr⟩ := identify_any _ l2 h0 h1
      exact ⟨r, e, fun h => ⟨(torn ht hs ht8 hs8 (Ne.symm hne) hk2 (hr h).1).symm, (hr h).2⟩⟩
  have hL : [s.take k ++ t.drop k, t.take k ++ s.drop k].length = 2 := rfl
  generalize [s.take k ++ t.drop k, t.take k ++ s.drop k] = L at good hL
  obtain ⟨b, hb, rfl⟩ := while_total (f := fun q : Int => S_law02_PageTears_0 id s t L ((L.length : Nat) : Int) q) (fun q => ∃ j : Nat, q = j ∧ j ≤ L.length) (fun q => (L.length - q).toNat) (fun b => b = true) (fun q ⟨j, hj, h4⟩ => by
    subst hj
    by_cases hlt : j < L.length
    · left
      have e1 : ((j : Nat) : Int) < (L.length : Int) := by omega
      · have hbig : j < 1000000 := by omega
        have e2 : idx L (j : Int) = some L[j] := by rw [idx_nat, List.getElem?_eq_getElem hlt]
        obtain ⟨r, e3, hr⟩ := good L[j] (List.getElem_mem hlt)
        refine ⟨((j + 1 : Nat) : Int), ?_, ⟨j + 1, rfl, by omega⟩, by omega⟩
        simp only [S_law02_PageTears_0, e1, decide_true, if_true, e2, e3, Option.bind_some, succ64 hbig]
        by_cases hz : r.2 = 0
        · obtain ⟨hst, hid⟩ := hr hz
          have d1 : (r.1.ID != id) = false := by simp [hid]
          simp only [hz, beq_self_eq_true, if_true, d1, Bool.false_eq_true, if_false]
          by_cases h5 : L[j] = s
          · have d2 : (L[j] == s) = true := by simpa using h5
            simp only [d2, if_true]
          · have d2 : (L[j] == s) = false := by simpa using h5
            have d3 : (L[j] == t) = true := by simpa using hst.resolve_left h5
            simp only [d2, d3, Bool.false_eq_true, if_false, if_true]
        · have d1 : (r.2 == 0) = false := by simpa using hz
          simp only [d1, Bool.false_eq_true, if_false]
    · right
      have e1 : ¬ ((j : Nat) : Int) < (L.length : Int) := by omega
      exact ⟨true, by simp only [S_law02_PageTears_0, e1, decide_false, Bool.false_eq_true, if_false, S_law02_PageTears_1, Option.map_some], rfl⟩) 0 ⟨0, rfl, by omega⟩
  exact hb

theorem awake_ok : S_law02_awake = some true := by
  have h := blank_ok (id := 3) (lsn := 0) (by omega) (by omega) (by omega) (by omega)
  obtain ⟨r, e1, hr⟩ := encode_any ⟨3, 0, Vector.replicate 16 ⟨false, []⟩⟩
  obtain ⟨h1, h2, _, _, h5⟩ := hr h
  unfold S_law02_awake S_page_New
  have e2 : (((r.1.length : Nat) : Int) == 256) = true := by rw [h2]; rfl
  have e3 : sidS r.1 8 = some 3 := by
    have e4 := sid_nat (l := r.1) (k := 8) (by omega)
    have e5 : ((r.1.drop 8).take 4)[0]? = (numS 3 4)[0]? := by rw [h5]
    have e6 : (numS 3 4)[0]? = some 3 := by decide +kernel
    rw [e6, List.getElem?_take_of_lt (by omega), List.getElem?_drop, Nat.add_zero, List.getElem?_eq_getElem (by omega)] at e5
    injection e5 with e5
    rw [e5] at e4
    exact e4
  simp only [Option.bind_some, e1, h1, beq_self_eq_true, if_true, e2, e3]

theorem law_ok (l : List Int) (x1 : Int) (x2 : Bool) (hl : ∀ x ∈ l, 0 ≤ x ∧ x ≤ 255) (h0 : 0 ≤ x1) (h1 : x1 ≤ 65535) : S_law02_PageTears l x1 x2 = some true := by
  obtain ⟨b0, a1, hb0⟩ := new_ok hl (n := 200) (by omega)
  obtain ⟨id, b1, a2, hb1, i0, i1⟩ := next_ok hb0 (n := 64) (by omega) (by omega)
  obtain ⟨p, b2, a3, hb2, hp, pid⟩ := page_draw hb1 i0 i1
  obtain ⟨q, b3, a4, hb3, hq, qid⟩ := page_draw hb2 i0 i1
  have a1' : S_draw_New l 200 = some b0 := a1
  obtain ⟨s, e1, hs⟩ := encode_any p
  obtain ⟨t, e2, ht⟩ := encode_any q
  have hs := hs hp
  have ht := ht hq
  unfold S_law02_PageTears
  simp only [awake_ok, a1', a2, a3, a4, Option.bind_some, if_true]
  by_cases hpq : p.LSN = q.LSN
  · have d : (p.LSN == q.LSN) = true := by simpa using hpq
    simp only [d, if_true]
  · have d : (p.LSN == q.LSN) = false := by simpa using hpq
    simp only [d, Bool.false_eq_true, if_false, e1, e2, Option.bind_some, hs.ok, ht.ok, blank_bytes]
    have main := tears_loop hs.len ht.len (hs.head.trans hs.tail.symm) (ht.head.trans ht.tail.symm) (by
      rw [hs.head, ht.head]
      exact fun h => hpq (numS_inj hp.lsn0 hp.lsn1 hq.lsn0 hq.lsn1 h)) i0 i1 h0 h1
    split
    · split
      · rename_i hq0
        refine tears_loop blk_len ht.len (blk_take.trans blk_drop.symm) (ht.head.trans ht.tail.symm) ?_ i0 i1 h0 h1
        rw [ht.head]
        intro h
        rw [blk_take] at h
        have := numS_inj (by omega) (by omega) hq.lsn0 hq.lsn1 h
        have hq0' : q.LSN > 0 := by simpa using hq0
        omega
      · exact main
    · exact main

end Go.Am
