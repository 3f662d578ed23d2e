/-
  The law, in plain terms: pages as bytes and back.
-/
import Derived.Test.YteiakclfpfmigaaPlain2
set_option linter.unusedSimpArgs false
set_option linter.unusedVariables false
namespace Go.Am

theorem encode_loop (p : T_api_Page) (hc : ∀ (i : Nat) (h : i < 16), (p.Cells[i]).Data.length ≤ 12) (h0 : List UInt8) (hh : h0 = numS p.LSN 8 ++ numS p.ID 4) :
    ∃ r, W_page_Encode_0 p.Cells p (0, ⟨h0⟩) = some r ∧ EncOk p r := by
  refine while_total (f := fun s : Int × T_page_builder => S_page_Encode_0 p.Cells p s.1 s.2) (fun s => ∃ (j : Nat) (t : List UInt8), s.1 = j ∧ j ≤ 16 ∧ s.2.s_ = numS p.LSN 8 ++ numS p.ID 4 ++ t ∧ t.length = 13 * j) (fun s => (16 - s.1).toNat)
    (EncOk p) (fun s ⟨j, t, hj, h4, ht, hl⟩ => ?_) (0, ⟨h0⟩) ⟨0, [], rfl, by omega, by simp [hh], by simp⟩
  obtain ⟨j', b⟩ := s
  simp only at hj ht
  subst hj
  have hbl : b.s_.length = 12 + 13 * j := by rw [ht]; simp only [List.length_append, numS_length, hl]
  by_cases hlt : j < 16
  · left
    have e1 : ((j : Nat) : Int) < 16 := by omega
    obtain ⟨u, e2, hu⟩ := cell_bytes b p.Cells[j] (hc j hlt) (by omega)
    exact ⟨⟨((j + 1 : Nat) : Int), ⟨b.s_ ++ u⟩⟩, by simp only [S_page_Encode_0, e1, decide_true, if_true, vget_nat _ j hlt, Option.bind_some, e2, succ64 (show j < 1000000 by omega)], ⟨j + 1, t ++ u, rfl, by omega, by simp only [ht, List.append_assoc], by simp only [List.length_append, hl, hu]; omega⟩, by simp; omega⟩
  · right
    obtain rfl : j = 16 := by omega
    have e1 : ¬ (((16 : Nat) : Nat) : Int) < 16 := by omega
    have a0 : IntKind.wrap .i64 (244 - ((b.s_.length : Nat) : Int)) = 24 := by rw [hbl, wrap64 (by omega) (by omega)]; omega
    have a1 := zeros_ok (n := 24) (by omega) (by omega)
    have a2 : catS b.s_ (List.replicate (24 : Int).toNat 0) = some (b.s_ ++ List.replicate (24 : Int).toNat 0) := cat_ok (by omega) (by simp)
    obtain ⟨r, a3⟩ := sum_ok (b.s_ ++ List.replicate (24 : Int).toNat 0) (by simp [hbl])
    have a4 := put_ok (b.s_ ++ List.replicate (24 : Int).toNat 0) (IntKind.wrap .i64 r) (k := 4) (by omega) (by omega) (by simp [hbl])
    have a5 := put_ok (b.s_ ++ List.replicate (24 : Int).toNat 0 ++ numS (IntKind.wrap .i64 r) 4) p.LSN (k := 8) (by omega) (by omega) (by simp [hbl, numS_length])
    refine ⟨(b.s_ ++ List.replicate (24 : Int).toNat 0 ++ numS (IntKind.wrap .i64 r) 4 ++ numS p.LSN 8, 0), ?_, ?_⟩
    · simp only [S_page_Encode_0, e1, decide_false, Bool.false_eq_true, if_false, S_page_Encode_1, a0, a1, a2, a3, Option.bind_some]
      rw [show (4 : Int) = ((4 : Nat) : Int) by rfl, a4, Option.bind_some, show (8 : Int) = ((8 : Nat) : Int) by rfl, a5]
      rfl
    · refine ⟨rfl, by simp [hbl, numS_length], ?_, ?_, ?_⟩
      · rw [ht]
        simp only [List.append_assoc]
        rw [List.take_append_of_le_length (by rw [numS_length]; omega), List.take_of_length_le (by rw [numS_length]; omega)]
      · rw [List.drop_append, List.drop_of_length_le (by simp [hbl, numS_length]), List.nil_append]
        simp [hbl, numS_length]
      · rw [ht]
        simp only [List.append_assoc]
        rw [List.drop_append, List.drop_of_length_le (by rw [numS_length]; omega), List.nil_append, numS_length, Nat.sub_self, List.drop_zero, List.take_append_of_le_length (by rw [numS_length]; omega), List.take_of_length_le (by rw [numS_length]; omega)]

theorem encode_any (p : T_api_Page) : ∃ r, S_page_Encode p = some r ∧ (PageOk p → EncOk p r) := by
  have hp : ∃ b, S_page_placed p = some b ∧ (PageOk p → b = true) := by
    unfold S_page_placed S_page_named
    by_cases h1 : p.ID ≥ 0
    · by_cases h2 : p.ID < 64
      · by_cases h3 : p.LSN ≥ 0
        · exact ⟨decide (p.LSN ≤ 1099511627776), by simp [h1, h2, h3], fun h => by simpa using h.lsn1⟩
        · exact ⟨false, by simp [h1, h2, h3], fun h => (h3 h.lsn0).elim⟩
      · exact ⟨false, by simp [h1, h2], fun h => (h2 h.id1).elim⟩
    · exact ⟨false, by simp [h1], fun h => (h1 h.id0).elim⟩
  obtain ⟨b, e1, hb⟩ := hp
  obtain ⟨d, e2, hd, hd2⟩ := cells_any p
  unfold S_page_Encode
  simp only [e1, e2, Option.bind_some]
  cases b with
  | false => exact ⟨_, rfl, fun h => by cases hb h⟩
  | true =>
    cases d with
    | false => exact ⟨_, rfl, fun h => by cases hd2 h.cells⟩
    | true =>
      have a1 := put_ok [] p.LSN (k := 8) (by omega) (by omega) (by simp)
      have a2 := put_ok ([] ++ numS p.LSN 8) p.ID (k := 4) (by omega) (by omega) (by simp [numS_length])
      obtain ⟨r, hr, hq⟩ := encode_loop p (hd rfl) ([] ++ numS p.LSN 8 ++ numS p.ID 4) (by simp)
      refine ⟨r, ?_, fun _ => hq⟩
      simp only [if_true]
      rw [show (8 : Int) = ((8 : Nat) : Int) by rfl, a1, Option.bind_some, show (4 : Int) = ((4 : Nat) : Int) by rfl, a2, Option.bind_some]
      exact hr

/-! ### Back -/

theorem get_any (s : List UInt8) (hs : s.length ≤ 1000) {at_ k : Nat} (h1 : 1 ≤ k) (h8 : k ≤ 8) (ha : at_ ≤ 1000) : ∃ r, S_codec_Get s at_ k = some r := by
  have c1 : ¬ ((k : Int) < 1) := by omega
  have c2 : ¬ ((k : Int) > 8) := by omega
  have c3 : ¬ ((at_ : Int) < 0) := by omega
  unfold S_codec_Get
  simp only [c1, c2, c3, decide_false, Bool.false_eq_true, if_false]
  by_cases c4 : (at_ : Int) > (s.length : Int)
  · exact ⟨(0, 5), by simp only [c4, decide_true, if_true]⟩
  · have e0 : IntKind.wrap .i64 ((s.length : Int) - at_) = (s.length : Int) - at_ := wrap64 (by omega) (by omega)
    simp only [c4, decide_false, Bool.false_eq_true, if_false, e0]
    by_cases c5 : (s.length : Int) - at_ < k
    · exact ⟨(0, 5), by simp only [c5, decide_true, if_true]⟩
    · simp only [c5, decide_false, Bool.false_eq_true, if_false]
      obtain ⟨r, hr, _⟩ := while_total (f := fun q : Int × Int => S_codec_Get_0 s at_ k q.1 q.2) (fun q => ∃ j : Nat, q.2 = j ∧ j ≤ k) (fun q => (k - q.2).toNat) (fun _ => True) (fun q ⟨j, hj, h4⟩ => by
        obtain ⟨x, j'⟩ := q
        simp only at hj
        subst hj
        by_cases hlt : j < k
        · left
          have e1 : ((j : Nat) : Int) < (k : Int) := by omega
          have e2 : IntKind.wrap .i64 ((at_ : Int) + (j : Int)) = ((at_ + j : Nat) : Int) := by rw [wrap64 (by omega) (by omega)]; omega
          have e3 : IntKind.wrap .i64 (8 * (j : Int)) = ((8 * j : Nat) : Int) := by rw [wrap64 (by omega) (by omega)]; omega
          have e4 : ∀ z : Int, ∃ y, shlS .u64 z ((8 * j : Nat) : Int) = some y := fun z => ⟨_, if_neg (by omega)⟩
          obtain ⟨y, e5⟩ := e4 (IntKind.wrap .u64 (((s[at_ + j]).toNat : Nat) : Int))
          exact ⟨⟨_, ((j + 1 : Nat) : Int)⟩, by simp only [S_codec_Get_0, e1, decide_true, if_true, e2, sid_nat (show at_ + j < s.length by omega), Option.bind_some, e3, e5, succ64 (show j < 1000000 by omega)]; rfl, ⟨j + 1, rfl, by omega⟩, by simp; omega⟩
        · right
          have e1 : ¬ ((j : Nat) : Int) < (k : Int) := by omega
          exact ⟨_, by simp only [S_codec_Get_0, e1, decide_false, Bool.false_eq_true, if_false, S_codec_Get_1, Option.map_some]; rfl, trivial⟩) (0, 0) ⟨0, rfl, by omega⟩
      exact ⟨r, hr⟩

theorem get_byte (s : List UInt8) (hs : s.length ≤ 1000) {at_ : Nat} (ha : at_ < s.length) : S_codec_Get s at_ 1 = some (((s[at_]).toNat : Int), 0) := by
  have c3 : ¬ ((at_ : Int) < 0) := by omega
  have c4 : ¬ ((at_ : Int) > (s.length : Int)) := by omega
  have e0 : IntKind.wrap .i64 ((s.length : Int) - at_) = (s.length : Int) - at_ := wrap64 (by omega) (by omega)
  have c5 : ¬ ((s.length : Int) - at_ < 1) := by omega
  unfold S_codec_Get
  simp only [show ¬ ((1 : Int) < 1) by omega, show ¬ ((1 : Int) > 8) by omega, c3, c4, e0, c5, decide_false, Bool.false_eq_true, if_false]
  have hu : (s[at_]).toNat < 256 := UInt8.toNat_lt _
  have w0 : IntKind.wrap .u64 (((s[at_]).toNat : Nat) : Int) = (((s[at_]).toNat : Nat) : Int) := wrapu64 (by omega) (by omega)
  have e2 : IntKind.wrap .i64 ((at_ : Int) + 0) = (at_ : Int) := by rw [wrap64 (by omega) (by omega)]; omega
  have e3 : shlS .u64 (((s[at_]).toNat : Nat) : Int) (IntKind.wrap .i64 (8 * 0)) = some (((s[at_]).toNat : Nat) : Int) := by
    rw [show IntKind.wrap .i64 (8 * 0) = 0 by rfl]
    show some (IntKind.wrap .u64 ((((s[at_]).toNat : Nat) : Int) * 2 ^ 0)) = _
    rw [show ((((s[at_]).toNat : Nat) : Int) * 2 ^ 0) = (((s[at_]).toNat : Nat) : Int) by omega, w0]
  have e4 : orI .u64 0 (((s[at_]).toNat : Nat) : Int) = (((s[at_]).toNat : Nat) : Int) := by
    have h2 : (BitVec.ofInt 64 0 ||| BitVec.ofInt 64 (((s[at_]).toNat : Nat) : Int)).toNat = (s[at_]).toNat := by
      rw [show BitVec.ofInt 64 0 = 0#64 by rfl, BitVec.zero_or, BitVec.toNat_ofInt]
      omega
    show IntKind.wrap .u64 (((BitVec.ofInt 64 0 ||| BitVec.ofInt 64 (((s[at_]).toNat : Nat) : Int)).toNat : Nat) : Int) = _
    rw [h2, w0]
  have s0 : S_codec_Get_0 s at_ 1 0 0 = some (.inl ((((s[at_]).toNat : Nat) : Int), 1)) := by
    simp only [S_codec_Get_0, show ((0 : Int) < 1) by omega, decide_true, if_true, e2, sid_nat ha, Option.bind_some, w0, e3, e4, show IntKind.wrap .i64 ((0 : Int) + 1) = 1 by rfl]
  have s1 : S_codec_Get_0 s at_ 1 (((s[at_]).toNat : Nat) : Int) 1 = some (.inr ((((s[at_]).toNat : Nat) : Int), 0)) := by
    simp only [S_codec_Get_0, show ¬ ((1 : Int) < 1) by omega, decide_false, Bool.false_eq_true, if_false, S_codec_Get_1, Option.map_some, wrap64 (show -9223372036854775808 ≤ (((s[at_]).toNat : Nat) : Int) by omega) (by omega)]
  exact (while_next (f := fun q : Int × Int => S_codec_Get_0 s at_ 1 q.1 q.2) (s := (0, 0)) s0).trans (while_done s1)

theorem number_any (s : List UInt8) (hs : s.length ≤ 1000) {at_ k : Nat} (h1 : 1 ≤ k) (h8 : k ≤ 8) (ha : at_ ≤ 1000) : ∃ r, S_page_number s at_ k = some r := by
  obtain ⟨r, hr⟩ := get_any s hs h1 h8 ha
  exact ⟨r.1, by simp [S_page_number, hr]⟩

theorem slc_ok {α : Type} (l : List α) {a b : Nat} (h1 : a ≤ b) (h2 : b ≤ l.length) : slcS l (some (a : Int)) (some (b : Int)) = some ((l.drop a).take (b - a)) := by
  have e1 : (0 : Int) ≤ b ∧ (b : Int) ≤ l.length := by omega
  have e2 : (0 : Int) ≤ a ∧ (a : Int) ≤ b := by omega
  simp only [slcS, cutS, bndS, e1, e2, and_self, if_true, Int.toNat_natCast]

theorem slc_to {α : Type} (l : List α) {b : Nat} (h2 : b ≤ l.length) : slcS l none (some (b : Int)) = some (l.take b) := by
  have e1 : (0 : Int) ≤ b ∧ (b : Int) ≤ l.length := by omega
  simp only [slcS, cutS, bndS, e1, and_self, if_true, Int.toNat_natCast, List.drop_zero, Nat.sub_zero]

theorem slc_from {α : Type} (l : List α) {a : Nat} (h2 : a ≤ l.length) : slcS l (some (a : Int)) none = some (l.drop a) := by
  have e1 : (0 : Int) ≤ a ∧ (a : Int) ≤ l.length := by omega
  simp only [slcS, cutS, bndS, e1, and_self, if_true, Int.toNat_natCast]
  rw [List.take_of_length_le (by simp)]

theorem read_any (s : List UInt8) (hs : s.length = 256) : ∃ r, S_page_read s = some r := by
  obtain ⟨r1, a1⟩ := number_any s (by omega) (at_ := 8) (k := 4) (by omega) (by omega) (by omega)
  obtain ⟨r2, a2⟩ := number_any s (by omega) (at_ := 0) (k := 8) (by omega) (by omega) (by omega)
  have a1' : S_page_number s 8 4 = some r1 := a1
  have a2' : S_page_number s 0 8 = some r2 := a2
  unfold S_page_read
  simp only [a1', a2', Option.bind_some]
  obtain ⟨r, hr, _⟩ := while_total (f := fun q : Int × T_api_Page => S_page_read_0 s ⟨0, 0, Vector.replicate 16 ⟨false, []⟩⟩ q.1 q.2) (fun q => ∃ j : Nat, q.1 = j ∧ j ≤ 16) (fun q => (16 - q.1).toNat) (fun _ => True) (fun q ⟨j, hj, h4⟩ => by
    obtain ⟨j', p⟩ := q
    simp only at hj
    subst hj
    by_cases hlt : j < 16
    · have e1 : ((j : Nat) : Int) < 16 := by omega
      have e2 : IntKind.wrap .i64 (12 + IntKind.wrap .i64 ((j : Int) * 13)) = ((12 + 13 * j : Nat) : Int) := by
        rw [wrap64 (n := (j : Int) * 13) (by omega) (by omega), wrap64 (by omega) (by omega)]; omega
      have hu : (s[12 + 13 * j]'(by omega)).toNat < 256 := UInt8.toNat_lt _
      have e3 : S_page_number s ((12 + 13 * j : Nat) : Int) 1 = some (((s[12 + 13 * j]'(by omega)).toNat : Nat) : Int) := by
        simp only [S_page_number, get_byte s (by omega) (show 12 + 13 * j < s.length by omega), Option.bind_some]
      generalize hv : (s[12 + 13 * j]'(by omega)).toNat = v at e3 hu
      by_cases h255 : v = 255
      · left
        subst h255
        exact ⟨⟨((j + 1 : Nat) : Int), p⟩, by simp only [S_page_read_0, e1, decide_true, if_true, e2, e3, Option.bind_some, succ64 (show j < 1000000 by omega)]; rfl, ⟨j + 1, rfl, by omega⟩, by simp; omega⟩
      · have e4 : (((v : Nat) : Int) == 255) = false := by simp; omega
        by_cases h12 : ((v : Nat) : Int) > 12
        · right
          exact ⟨_, by simp only [S_page_read_0, e1, decide_true, if_true, e2, e3, Option.bind_some, e4, Bool.false_eq_true, if_false, h12]; rfl, trivial⟩
        · left
          have e5 : IntKind.wrap .i64 (((12 + 13 * j : Nat) : Int) + 1) = ((13 + 13 * j : Nat) : Int) := by rw [wrap64 (by omega) (by omega)]; omega
          have e6 : IntKind.wrap .i64 (((13 + 13 * j : Nat) : Int) + ((v : Nat) : Int)) = ((13 + 13 * j + v : Nat) : Int) := by rw [wrap64 (by omega) (by omega)]; omega
          have e7 := slc_ok s (a := 13 + 13 * j) (b := 13 + 13 * j + v) (by omega) (by omega)
          exact ⟨⟨((j + 1 : Nat) : Int), _⟩, by simp only [S_page_read_0, e1, decide_true, if_true, e2, e3, Option.bind_some, e4, Bool.false_eq_true, if_false, h12, decide_false, e5, e6, e7, inb_nat hlt, vget_nat _ j hlt, succ64 (show j < 1000000 by omega)]; rfl, ⟨j + 1, rfl, by omega⟩, by simp; omega⟩
    · right
      have e1 : ¬ ((j : Nat) : Int) < 16 := by omega
      exact ⟨_, by simp only [S_page_read_0, e1, decide_false, Bool.false_eq_true, if_false, S_page_read_1, Option.map_some]; rfl, trivial⟩) (0, ⟨r1, r2, Vector.replicate 16 ⟨false, []⟩⟩) ⟨0, rfl, by omega⟩
  exact ⟨r, hr⟩

end Go.Am
