/-
  The law, in plain terms.
-/
import Derived.Test.YtiamnlgkgkhflaaS1
set_option linter.unusedSimpArgs false
set_option linter.unusedVariables false
namespace Go.Am

theorem wrap64 {n : Int} (h1 : -9223372036854775808 ≤ n) (h2 : n ≤ 9223372036854775807) : IntKind.i64.wrap n = n := by
  simp [IntKind.wrap_i64]; omega

theorem wrapu64 {n : Int} (h1 : 0 ≤ n) (h2 : n < 18446744073709551616) : IntKind.u64.wrap n = n := by
  rw [show IntKind.u64.wrap n = n % 18446744073709551616 by simp [IntKind.wrap, IntKind.bits, IntKind.signed]]; omega

theorem idx_nat {α : Type} (l : List α) (k : Nat) : idx l (k : Int) = l[k]? := by simp [idx]

/-! ### Choices -/

structure CodesOk (b : T_pagemenddraw_Codes) : Prop where
  at0 : 0 ≤ b.at_
  at1 : b.at_ ≤ b.l_.length
  len : b.l_.length ≤ 1000
  byte : ∀ x ∈ b.l_, 0 ≤ x ∧ x ≤ 255

theorem next_small {b : T_pagemenddraw_Codes} (hb : CodesOk b) {n : Int} (h1 : 1 ≤ n) (h2 : n ≤ 256) (m : Nat) : ∃ r b', S_draw_Codes_Next_N (m + 1) b n = some (r, b') ∧ CodesOk b' ∧ 0 ≤ r ∧ r < n := by
  obtain ⟨ha, hb1, hl, hx⟩ := hb
  simp only [S_draw_Codes_Next_N, S_draw_Codes_Next_R]
  by_cases hc : b.at_ ≥ (b.l_.length : Int)
  · exact ⟨0, b, by simp [hc], ⟨ha, hb1, hl, hx⟩, by omega, by omega⟩
  · obtain ⟨k, hk⟩ : ∃ k : Nat, b.at_ = (k : Int) := ⟨b.at_.toNat, by omega⟩
    have hk2 : k < b.l_.length := by omega
    have hy := hx _ (List.getElem_mem hk2)
    have e1 : ¬ n < 1 := by omega
    have e2 : ¬ n > 256 := by omega
    have e3 : idx b.l_ b.at_ = some b.l_[k] := by rw [hk, idx_nat, List.getElem?_eq_getElem hk2]
    have e4 : ¬ n = 0 := by omega
    refine ⟨(b.l_[k]).tmod n, ⟨b.l_, b.at_ + 1⟩, ?_, ⟨by show 0 ≤ b.at_ + 1; omega, by show b.at_ + 1 ≤ (b.l_.length : Int); omega, hl, hx⟩, Int.tmod_nonneg _ hy.1, Int.tmod_lt_of_pos _ (by omega)⟩
    simp only [hc, decide_false, e1, e2, e3, Option.bind_some, remS, e4, if_false, Bool.false_eq_true]
    rw [wrap64 (by omega) (by omega), wrap64 (by omega) (by omega)]

theorem next_ok {b : T_pagemenddraw_Codes} (hb : CodesOk b) {n : Int} (h1 : 1 ≤ n) (h2 : n ≤ 256) : ∃ r b', S_draw_Codes_Next b n = some (r, b') ∧ CodesOk b' ∧ 0 ≤ r ∧ r < n := next_small hb h1 h2 11

theorem new_ok {l : List Int} (h : ∀ x ∈ l, 0 ≤ x ∧ x ≤ 255) {n : Nat} (hn : n ≤ 1000) : ∃ b, S_draw_New l (n : Int) = some b ∧ CodesOk b := by
  unfold S_draw_New S_draw_New_0
  by_cases hc : (l.length : Int) > n
  · have : slcS l none (some (n : Int)) = some (l.take n) := by
      have e1 : (0 : Int) ≤ n ∧ n ≤ l.length := by omega
      have e2 : n ≤ l.length := by omega
      simp [slcS, cutS, bndS, e2]
    refine ⟨⟨l.take n, 0⟩, by simp [hc, this], ⟨by show (0 : Int) ≤ 0; omega, by show (0 : Int) ≤ _; omega, by simp; omega, fun x hx => h x (List.mem_of_mem_take hx)⟩⟩
  · exact ⟨⟨l, 0⟩, by simp [hc], ⟨by show (0 : Int) ≤ 0; omega, by show (0 : Int) ≤ _; omega, by show l.length ≤ 1000; omega, h⟩⟩

/-! ### Bounds -/

structure Bnd (l : List Int) (n : Int) : Prop where
  first : l[0]? = some 0
  inc : ∀ (i j : Nat) x y, i < j → l[i]? = some x → l[j]? = some y → x < y
  lt : ∀ x ∈ l, 0 ≤ x ∧ x < n
  len : l.length ≤ 16
  n1 : 1 ≤ n
  n64 : n ≤ 64

theorem bounds_loop {n : Int} (hn : 1 ≤ n) (h64 : n ≤ 64) : ∀ (m : Nat) (i : Int) (b : T_pagemenddraw_Codes) (l : List Int), i + m = n → 1 ≤ i → CodesOk b → Bnd l i →
    ∃ l' b', W_make_Bounds_1 n (i, b, l) = some (l', b') ∧ Bnd l' n ∧ CodesOk b' := by
  intro m
  induction m with
  | zero =>
    intro i b l hi h1 hb hl
    obtain rfl : i = n := by omega
    refine ⟨l, b, ?_, hl, hb⟩
    exact while_done (by simp [S_make_Bounds_1, S_make_Bounds_2])
  | succ m ih =>
    intro i b l hi h1 hb hl
    obtain ⟨r, b', e1, hb', _, _⟩ := next_ok hb (n := 3) (by omega) (by omega)
    have e2 : i < n := by omega
    have e3 : IntKind.i64.wrap (i + 1) = i + 1 := wrap64 (by omega) (by omega)
    have keep : Bnd l (i + 1) := ⟨hl.first, hl.inc, fun x hx => by have := hl.lt x hx; omega, hl.len, by omega, by omega⟩
    by_cases h0 : r = 0
    · by_cases h16 : l.length < 16
      · have e4 : (l.length : Int) < 16 := by omega
        have e5 : appS 8 l [i] = some (l ++ [i]) := by
          have : roomy (l.length + 1) 8 = true := by simp [roomy]; omega
          simp only [appS, List.length_cons, List.length_nil, Nat.zero_add, this, if_true]
        have grown : Bnd (l ++ [i]) (i + 1) := by
          refine ⟨?_, fun a c x y hac hx hy => ?_, fun x hx => ?_, by simp; omega, by omega, by omega⟩
          · have := hl.first
            have h0 : 0 < l.length := (List.getElem?_eq_some_iff.1 this).1
            rw [List.getElem?_append_left h0]; exact this
          · have hc : c < (l ++ [i]).length := (List.getElem?_eq_some_iff.1 hy).1
            simp at hc
            have ha : a < l.length := by omega
            rw [List.getElem?_append_left ha] at hx
            rcases Nat.lt_or_ge c l.length with hlt | hge
            · rw [List.getElem?_append_left hlt] at hy
              exact hl.inc a c x y hac hx hy
            · rw [List.getElem?_append_right hge] at hy
              have : c - l.length = 0 := by omega
              rw [this] at hy; simp at hy; subst hy
              exact (hl.lt x (List.mem_of_getElem? hx)).2
          · rcases List.mem_append.1 hx with hx | hx
            · have := hl.lt x hx; omega
            · simp at hx; omega
        obtain ⟨l', b2, q1, q2, q3⟩ := ih (i + 1) b' (l ++ [i]) (by omega) (by omega) hb' grown
        refine ⟨l', b2, ?_, q2, q3⟩
        rw [← q1]
        exact while_next (by simp [S_make_Bounds_1, S_make_Bounds_0, e1, e2, e3, e4, e5, h0])
      · have e4 : ¬ (l.length : Int) < 16 := by omega
        obtain ⟨l', b2, q1, q2, q3⟩ := ih (i + 1) b' l (by omega) (by omega) hb' keep
        refine ⟨l', b2, ?_, q2, q3⟩
        rw [← q1]
        exact while_next (by simp [S_make_Bounds_1, S_make_Bounds_0, e1, e2, e3, e4, h0])
    · obtain ⟨l', b2, q1, q2, q3⟩ := ih (i + 1) b' l (by omega) (by omega) hb' keep
      refine ⟨l', b2, ?_, q2, q3⟩
      rw [← q1]
      exact while_next (by simp [S_make_Bounds_1, S_make_Bounds_0, e1, e2, e3, h0])

theorem bounds_ok {b : T_pagemenddraw_Codes} (hb : CodesOk b) {n : Int} (hn : 1 ≤ n) (h64 : n ≤ 64) : ∃ l b', S_make_Bounds b n = some (l, b') ∧ Bnd l n ∧ CodesOk b' := by
  obtain ⟨m, hm⟩ : ∃ m : Nat, 1 + (m : Int) = n := ⟨(n - 1).toNat, by omega⟩
  refine bounds_loop hn h64 m 1 b [0] hm (by omega) hb ⟨rfl, fun i j x y hij hx hy => ?_, fun x hx => by simp at hx; omega, by simp, by omega, by omega⟩
  have := (List.getElem?_eq_some_iff.1 hy).1
  simp at this
  omega

/-! ### Archives -/

def arc (l : List Int) (n : Int) : T_api_Archive := ⟨l, n, [], 1, 1⟩

theorem valid_loop {l : List Int} {n : Int} (hb : Bnd l n) : ∀ (m i : Nat), i + m = l.length → 1 ≤ i → W_archiver_Valid_0 (l.length : Int) (arc l n) (i : Int) = some true := by
  intro m
  induction m with
  | zero =>
    intro i hi h1
    obtain rfl : i = l.length := by omega
    refine while_done ?_
    have : W_archiver_Valid_1 [] 0 (arc l n) (0, 0) = some true := while_done (by simp [S_archiver_Valid_1, S_archiver_Valid_2])
    simp [S_archiver_Valid_0, S_archiver_Valid_3, arc] at this ⊢
    exact this
  | succ m ih =>
    intro i hi h1
    have hl := hb.len
    have e0 : IntKind.i64.wrap ((i : Int) - 1) = ((i - 1 : Nat) : Int) := by rw [wrap64 (by omega) (by omega)]; omega
    have e1 : IntKind.i64.wrap ((i : Int) + 1) = ((i + 1 : Nat) : Int) := by rw [wrap64 (by omega) (by omega)]; omega
    have a1 := List.getElem?_eq_getElem (l := l) (i := i - 1) (by omega)
    have a2 := List.getElem?_eq_getElem (l := l) (i := i) (by omega)
    have e2 := hb.inc (i - 1) i _ _ (by omega) a1 a2
    have e3 : ¬ l[i - 1] ≥ l[i] := by omega
    have e4 : (i : Int) < l.length := by omega
    rw [← ih (i + 1) (by omega) (by omega)]
    refine while_next ?_
    simp only [S_archiver_Valid_0, arc, e4, decide_true, if_true, e0, idx_nat, a1, a2, Option.bind_some, e3, decide_false, Bool.false_eq_true, if_false, e1]

theorem valid_ok {l : List Int} {n : Int} (hb : Bnd l n) : S_archiver_Valid (arc l n) = some true := by
  have hl := hb.len
  have h0 : 0 < l.length := (List.getElem?_eq_some_iff.1 hb.first).1
  have e0 : IntKind.i64.wrap ((l.length : Int) - 1) = ((l.length - 1 : Nat) : Int) := by rw [wrap64 (by omega) (by omega)]; omega
  have a1 := List.getElem?_eq_getElem (l := l) (i := l.length - 1) (by omega)
  have a2 := (hb.lt _ (List.getElem_mem (l := l) (n := l.length - 1) (by omega))).2
  have e1 : ¬ n < 1 := by have := hb.n1; omega
  have e2 : ¬ n > 64 := by have := hb.n64; omega
  have e3 : ¬ (l.length : Int) < 1 := by omega
  have e4 : ¬ (l.length : Int) > 16 := by omega
  have e5 : idx l 0 = some 0 := by have := idx_nat l 0; simp only [Int.ofNat_zero, Int.natCast_zero] at this; rw [this]; exact hb.first
  have e6 : ¬ l[l.length - 1] ≥ n := by omega
  have e7 := valid_loop hb (l.length - 1) 1 (by omega) (by omega)
  simp only [S_archiver_Valid, arc, e1, e2, e3, e4, e5, e0, idx_nat, a1, Option.bind_some, e6, decide_false, Bool.false_eq_true, if_false, bne_self_eq_false]
  exact e7

theorem new_arc {l : List Int} {n : Int} (hb : Bnd l n) : S_archiver_New n l = some (arc l n, 0) := by
  have hl := hb.len
  have e1 : (2 * l.length + 512) * 8 ≤ 281474976710656 := by omega
  have e2 := valid_ok hb
  simp only [arc] at e2
  simp only [S_archiver_New, S_slices_Clone_int_int, e1, if_true, Option.bind_some, e2]
  rfl

/-! ### Search -/

theorem less_ok (x y : Int) : S_cmp_Less_int x y = some (decide (x < y)) := by
  simp [S_cmp_Less_int, S_cmp_isNaN_int]

theorem search_loop {l : List Int} (hl : l.length ≤ 1000) (hs : ∀ (i j : Nat) x y, i < j → l[i]? = some x → l[j]? = some y → x < y) (x : Int) : ∀ (m lo hi : Nat), hi - lo = m → lo ≤ hi → hi ≤ l.length →
    (∀ (j : Nat) y, j < lo → l[j]? = some y → y < x) → (∀ (j : Nat) y, hi ≤ j → l[j]? = some y → x ≤ y) →
    ∃ i : Nat, W_slices_BinarySearch_int_int_0 l x (l.length : Int) ((lo : Int), (hi : Int)) = some ((i : Int), decide (l[i]? = some x)) ∧ i ≤ l.length ∧ (∀ (j : Nat) y, j < i → l[j]? = some y → y < x) ∧ (∀ (j : Nat) y, i ≤ j → l[j]? = some y → x ≤ y) := by
  intro m
  induction m using Nat.strongRecOn with
  | _ m ih =>
    intro lo hi hm h1 h2 ha hb
    by_cases h : lo < hi
    · have e0 : (lo : Int) < hi := by omega
      have e1 : IntKind.i64.wrap ((lo : Int) + hi) = ((lo + hi : Nat) : Int) := by rw [wrap64 (by omega) (by omega)]; omega
      have e2 : IntKind.u64.wrap ((lo + hi : Nat) : Int) = ((lo + hi : Nat) : Int) := wrapu64 (by omega) (by omega)
      have e3 : shrS .u64 ((lo + hi : Nat) : Int) 1 = some (((lo + hi) / 2 : Nat) : Int) := by
        have : min (Int.toNat 1) IntKind.u64.bits = 1 := by decide
        simp only [shrS, this]
        rw [if_neg (by omega)]
        simp only [Int.pow_one]
        congr 1
        rw [Int.fdiv_eq_ediv_of_nonneg _ (by omega)]
        omega
      have e4 : IntKind.i64.wrap (((lo + hi) / 2 : Nat) : Int) = (((lo + hi) / 2 : Nat) : Int) := wrap64 (by omega) (by omega)
      have hmid : (lo + hi) / 2 < l.length := by omega
      have a1 := List.getElem?_eq_getElem hmid
      have e5 : IntKind.i64.wrap ((((lo + hi) / 2 : Nat) : Int) + 1) = (((lo + hi) / 2 + 1 : Nat) : Int) := by rw [wrap64 (by omega) (by omega)]; omega
      by_cases hlt : l[(lo + hi) / 2] < x
      · obtain ⟨i, q1, q2⟩ := ih (hi - ((lo + hi) / 2 + 1)) (by omega) ((lo + hi) / 2 + 1) hi rfl (by omega) h2 (fun j y hj hy => by
          rcases Nat.lt_or_ge j ((lo + hi) / 2) with hj2 | hj2
          · have := hs j _ y _ hj2 hy a1; omega
          · obtain rfl : j = (lo + hi) / 2 := by omega
            rw [a1] at hy; injection hy with hy; omega) hb
        refine ⟨i, ?_, q2⟩
        rw [← q1]
        refine while_next ?_
        simp only [S_slices_BinarySearch_int_int_0, e0, decide_true, if_true, e1, e2, e3, Option.bind_some, e4, idx_nat, a1, less_ok, hlt, e5]
      · obtain ⟨i, q1, q2⟩ := ih ((lo + hi) / 2 - lo) (by omega) lo ((lo + hi) / 2) rfl (by omega) (by omega) ha (fun j y hj hy => by
          rcases Nat.lt_or_ge ((lo + hi) / 2) j with hj2 | hj2
          · have := hs _ j _ y hj2 a1 hy; omega
          · obtain rfl : j = (lo + hi) / 2 := by omega
            rw [a1] at hy; injection hy with hy; omega)
        refine ⟨i, ?_, q2⟩
        rw [← q1]
        refine while_next ?_
        simp only [S_slices_BinarySearch_int_int_0, e0, decide_true, if_true, e1, e2, e3, Option.bind_some, e4, idx_nat, a1, less_ok, hlt, decide_false, Bool.false_eq_true, if_false]
    · obtain rfl : lo = hi := by omega
      refine ⟨lo, ?_, h2, ha, hb⟩
      refine while_done ?_
      have e0 : ¬ (lo : Int) < lo := by omega
      simp only [S_slices_BinarySearch_int_int_0, e0, decide_false, Bool.false_eq_true, if_false]
      by_cases h3 : lo < l.length
      · have e1 : (lo : Int) < l.length := by omega
        have a1 := List.getElem?_eq_getElem h3
        by_cases h4 : l[lo] = x
        · simp [S_slices_BinarySearch_int_int_1, idx_nat, e1, a1, h4]
        · simp [S_slices_BinarySearch_int_int_1, idx_nat, e1, a1, h4, S_slices_isNaN_int]
      · have e1 : ¬ (lo : Int) < l.length := by omega
        have a1 : l[lo]? = none := by rw [List.getElem?_eq_none_iff]; omega
        simp [S_slices_BinarySearch_int_int_1, e1, a1]

theorem search_ok {l : List Int} (hl : l.length ≤ 1000) (hs : ∀ (i j : Nat) x y, i < j → l[i]? = some x → l[j]? = some y → x < y) (x : Int) :
    ∃ i : Nat, S_slices_BinarySearch_int_int l x = some ((i : Int), decide (l[i]? = some x)) ∧ i ≤ l.length ∧ (∀ (j : Nat) y, j < i → l[j]? = some y → y < x) ∧ (∀ (j : Nat) y, i ≤ j → l[j]? = some y → x ≤ y) :=
  search_loop hl hs x l.length 0 l.length (by omega) (by omega) (by omega) (fun j y hj => by omega) (fun j y hj hy => by have := (List.getElem?_eq_some_iff.1 hy).1; omega)

/-! ### Partitions -/

def nxt (l : List Int) (n : Int) (k : Nat) : Int := (l[k + 1]?).getD n

theorem part_at {l : List Int} {n : Int} (hb : Bnd l n) {k : Nat} {x : Int} (hk : l[k]? = some x) : S_archiver_Part_0 (k : Int) (arc l n) = some (x, nxt l n k - 1, true) := by
  have hl := hb.len
  have hkl : k < l.length := (List.getElem?_eq_some_iff.1 hk).1
  have e1 : IntKind.i64.wrap ((k : Int) + 1) = ((k + 1 : Nat) : Int) := by rw [wrap64 (by omega) (by omega)]; omega
  have n1 := hb.n1
  have n64 := hb.n64
  unfold nxt
  by_cases h : k + 1 < l.length
  · have a1 := List.getElem?_eq_getElem h
    have a2 := hb.lt _ (List.getElem_mem h)
    have e2 : ((k + 1 : Nat) : Int) < l.length := by omega
    have e3 : IntKind.i64.wrap (l[k + 1] - 1) = l[k + 1] - 1 := wrap64 (by omega) (by omega)
    simp only [S_archiver_Part_0, S_archiver_part, arc, e1, e2, decide_true, if_true, idx_nat, hk, a1, Option.bind_some, e3, Option.getD_some]
  · have a1 : l[k + 1]? = none := by rw [List.getElem?_eq_none_iff]; omega
    have e2 : ¬ ((k + 1 : Nat) : Int) < l.length := by omega
    have e3 : IntKind.i64.wrap (n - 1) = n - 1 := wrap64 (by omega) (by omega)
    simp only [S_archiver_Part_0, S_archiver_part, arc, e1, e2, decide_false, Bool.false_eq_true, if_false, idx_nat, hk, a1, Option.bind_some, e3, Option.getD_none]

theorem part_ok {l : List Int} {n : Int} (hb : Bnd l n) {k : Nat} {x id : Int} (hk : l[k]? = some x) (h1 : x ≤ id) (h2 : id < nxt l n k) : S_archiver_Part (arc l n) id = some (x, nxt l n k - 1, true) := by
  have hl := hb.len
  have hkl : k < l.length := (List.getElem?_eq_some_iff.1 hk).1
  have hx := hb.lt x (List.mem_of_getElem? hk)
  have hn : nxt l n k ≤ n := by
    unfold nxt
    cases h : l[k + 1]? with
    | none => simp
    | some y => have := hb.lt y (List.mem_of_getElem? h); simp; omega
  obtain ⟨i, q1, q2, q3, q4⟩ := search_ok (l := l) (by omega) hb.inc id
  have e1 : ¬ id < 0 := by omega
  have e2 : ¬ id ≥ n := by omega
  have v := valid_ok hb
  have p := part_at hb hk
  by_cases he : x = id
  · subst he
    have : i = k := by
      rcases Nat.lt_trichotomy i k with h | h | h
      · have a := List.getElem?_eq_getElem (l := l) (i := i) (by omega)
        have := q4 i _ (Nat.le_refl _) a
        have := hb.inc i k _ _ h a hk
        omega
      · exact h
      · have := q3 k x h hk; omega
    subst this
    rw [hk] at q1
    simp only [decide_true] at q1
    simp only [S_archiver_Part, v, Option.bind_some, if_true, e1, decide_false, Bool.false_eq_true, if_false]
    simp only [arc] at p v ⊢
    simp only [e2, decide_false, Bool.false_eq_true, if_false, q1, Option.bind_some, if_true]
    exact p
  · have hlt : x < id := by omega
    have hki : k < i := by
      rcases Nat.lt_or_ge k i with h | h
      · exact h
      · have := q4 k x h hk; omega
    have : i = k + 1 := by
      rcases Nat.lt_or_ge (k + 1) i with h | h
      · have a := List.getElem?_eq_getElem (l := l) (i := k + 1) (by omega)
        have b := q3 (k + 1) _ h a
        unfold nxt at h2
        rw [a] at h2
        simp at h2; omega
      · omega
    subst this
    have hf : ¬ l[k + 1]? = some id := by
      intro h
      unfold nxt at h2
      rw [h] at h2
      simp at h2
    have e3 : IntKind.i64.wrap (((k + 1 : Nat) : Int) - 1) = (k : Int) := by rw [wrap64 (by omega) (by omega)]; omega
    simp only [hf, decide_false] at q1
    simp only [S_archiver_Part, v, Option.bind_some, if_true, e1, decide_false, Bool.false_eq_true, if_false]
    simp only [arc] at p v ⊢
    simp only [e2, decide_false, Bool.false_eq_true, if_false, q1, Option.bind_some, e3]
    exact p

/-! ### The law -/

theorem inner_loop {l : List Int} {n : Int} (hb : Bnd l n) {k : Nat} {x : Int} (hk : l[k]? = some x) (x8 : Int) : ∀ (m : Nat) (y : Int), y + m = nxt l n k → x ≤ y →
    W_law25_ArchiverParts_0 n x8 (k : Int) x (nxt l n k - 1) (arc l n) y = some (.inl (nxt l n k, ((k + 1 : Nat) : Int))) := by
  have hx := hb.lt x (List.mem_of_getElem? hk)
  have hkl : k < l.length := (List.getElem?_eq_some_iff.1 hk).1
  have hl := hb.len
  have n64 := hb.n64
  have hn : nxt l n k ≤ n := by
    unfold nxt
    cases h : l[k + 1]? with
    | none => simp
    | some y => have := hb.lt y (List.mem_of_getElem? h); simp; omega
  intro m
  induction m with
  | zero =>
    intro y hy h1
    refine while_done ?_
    have e1 : ¬ y ≤ nxt l n k - 1 := by omega
    have e2 : IntKind.i64.wrap (nxt l n k - 1 + 1) = nxt l n k := by rw [wrap64 (by omega) (by omega)]; omega
    have e3 : IntKind.i64.wrap ((k : Int) + 1) = ((k + 1 : Nat) : Int) := by rw [wrap64 (by omega) (by omega)]; omega
    simp only [S_law25_ArchiverParts_0, e1, decide_false, Bool.false_eq_true, if_false, S_law25_ArchiverParts_1, e2, e3, Option.map_some]
  | succ m ih =>
    intro y hy h1
    have e1 : y ≤ nxt l n k - 1 := by omega
    have e2 : IntKind.i64.wrap (y + 1) = y + 1 := wrap64 (by omega) (by omega)
    have e3 := part_ok hb hk h1 (by omega)
    rw [← ih (y + 1) (by omega) (by omega)]
    refine while_next ?_
    simp only [S_law25_ArchiverParts_0, e1, decide_true, if_true, e3, Option.bind_some, bne_self_eq_false, Bool.false_eq_true, if_false, e2]

theorem outer_loop {l : List Int} {n : Int} (hb : Bnd l n) : ∀ (m k : Nat), k + m = l.length → W_law25_ArchiverParts_2 n 0 (arc l n) ((l[k]?).getD n, (k : Int)) = some true := by
  have hl := hb.len
  have n1 := hb.n1
  have v := valid_ok hb
  intro m
  induction m with
  | zero =>
    intro k hk
    obtain rfl : k = l.length := by omega
    have a1 : l[l.length]? = none := by rw [List.getElem?_eq_none_iff]; omega
    rw [a1]
    refine while_done ?_
    have e1 : ¬ n < n := by omega
    have e2 : ¬ n < 0 := by omega
    have e3 : n ≥ n := by omega
    simp only [arc] at v
    simp only [S_law25_ArchiverParts_2, Option.getD_none, e1, decide_false, Bool.false_eq_true, if_false, S_law25_ArchiverParts_3, S_archiver_Part, arc, v, Option.bind_some, if_true, e2, e3, decide_true, beq_self_eq_true]
    rfl
  | succ m ih =>
    intro k hk
    have hkl : k < l.length := by omega
    have a1 := List.getElem?_eq_getElem hkl
    have hx := hb.lt _ (List.getElem_mem hkl)
    have hnx : l[k] < nxt l n k := by
      unfold nxt
      cases h : l[k + 1]? with
      | none => simp; omega
      | some y => have := hb.inc k (k + 1) _ _ (by omega) a1 h; simpa using this
    have p := part_ok hb a1 (Int.le_refl _) hnx
    obtain ⟨m2, hm2⟩ : ∃ m2 : Nat, l[k] + (m2 : Int) = nxt l n k := ⟨(nxt l n k - l[k]).toNat, by omega⟩
    have q := inner_loop hb a1 0 m2 l[k] hm2 (Int.le_refl _)
    rw [a1]
    have ih2 := ih (k + 1) (by omega)
    have e0 : (l[k + 1]?).getD n = nxt l n k := rfl
    rw [e0] at ih2
    rw [← ih2]
    refine while_next ?_
    have e1 : l[k] < n := hx.2
    have e2 : (k : Int) ≤ n := by
      have : (k : Int) ≤ l[k] := by
        have key : ∀ j : Nat, ∀ y, l[j]? = some y → (j : Int) ≤ y := by
          intro j
          induction j with
          | zero => intro y hy; have := (hb.lt y (List.mem_of_getElem? hy)).1; omega
          | succ j ihj =>
            intro y hy
            have hj : j < l.length := by have := (List.getElem?_eq_some_iff.1 hy).1; omega
            have a := List.getElem?_eq_getElem hj
            have := ihj _ a
            have := hb.inc j (j + 1) _ _ (by omega) a hy
            omega
        exact key k _ a1
      omega
    have e3 : ¬ nxt l n k - 1 < l[k] := by omega
    simp only [S_law25_ArchiverParts_2, Option.getD_some, e1, e2, decide_true, if_true, p, Option.bind_some, bne_self_eq_false, Bool.false_eq_true, if_false, e3, decide_false, q]

theorem awake_ok : S_law25_awake = some true := by
  have hb : Bnd [0, 4] 8 := by
    refine ⟨rfl, fun i j x y hij hx hy => ?_, fun x hx => by simp at hx; omega, by simp, by omega, by omega⟩
    have hj := (List.getElem?_eq_some_iff.1 hy).1
    simp at hj
    obtain rfl : i = 0 := by omega
    obtain rfl : j = 1 := by omega
    simp at hx hy
    omega
  have e1 := new_arc hb
  have e2 := part_ok hb (k := 0) (x := 0) (id := 3) rfl (by omega) (by simp [nxt])
  simp only [S_law25_awake, e1, Option.bind_some, e2]
  simp [arc, nxt]

theorem law_ok (codes : List Int) (pages : Int) (hc : ∀ x ∈ codes, 0 ≤ x ∧ x ≤ 255) (h1 : 0 ≤ pages) (h2 : pages ≤ 255) : S_law25_ArchiverParts codes pages = some true := by
  obtain ⟨b, e1, hb⟩ := new_ok hc (n := 200) (by omega)
  have hq := Int.tmod_nonneg 64 h1
  have hq2 := Int.tmod_lt_of_pos pages (b := 64) (by omega)
  obtain ⟨l, b', e2, hl, _⟩ := bounds_ok hb (n := 1 + pages.tmod 64) (by omega) (by omega)
  have e3 := new_arc hl
  have e4 := outer_loop hl l.length 0 (by omega)
  rw [hl.first] at e4
  have w1 : IntKind.i64.wrap pages = pages := wrap64 (by omega) (by omega)
  have w2 : IntKind.i64.wrap (1 + pages.tmod 64) = 1 + pages.tmod 64 := wrap64 (by omega) (by omega)
  simp only [S_law25_ArchiverParts, awake_ok, Option.bind_some, if_true]
  have e1' : S_draw_New codes 200 = some b := e1
  simp only [e1', Option.bind_some, remS, w1]
  rw [if_neg (by omega)]
  simp only [Option.bind_some, w2, e2, e3]
  exact e4

end Go.Am
