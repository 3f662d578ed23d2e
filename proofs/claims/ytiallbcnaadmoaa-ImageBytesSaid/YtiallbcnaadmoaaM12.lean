/-
  Parts of a proof.
-/
import Derived.Test.YtiallbcnaadmoaaM11
set_option linter.unusedSimpArgs false
set_option linter.unusedVariables false
section
namespace Go.Am
theorem Jp0 (p : T_api_Page) (hc : ∀ (i : Nat) (h : i < 16), (p.Cells[i]).Data.length ≤ 12) (h0 : List UInt8) (hh : h0 = JD p.LSN 8 ++ JD p.ID 4) :
  ∃ r, JaQ p.Cells p (0, ⟨h0⟩) = some r ∧ Jri p r := by
 refine J0R (f := fun s : Int × T_page_builder => J21 p.Cells p s.1 s.2) (fun s => ∃ (j : Nat) (t : List UInt8), s.1 = j ∧ j ≤ 16 ∧ s.2.s_ = JD p.LSN 8 ++ JD p.ID 4 ++ t ∧ t.length = 13 * j) (fun s => (16 - s.1).toNat)
  (Jri p) (fun s ⟨j, t, hj, h4, ht, hl⟩ => ?_) (0, ⟨h0⟩) ⟨0, [], rfl, by omega, by simp [hh], by simp⟩
 obtain ⟨j', b⟩ := s
 simp only at hj ht
 subst hj
 have hbl : b.s_.length = 12 + 13 * j := by rw [ht]; simp only [List.length_append, Jx, hl]
 by_cases hlt : j < 16
 ·left
  have e1 : ((j : Nat) : Int) < 16 := by omega
  obtain ⟨u, e2, hu⟩ := Jqq b p.Cells[j] (hc j hlt) (by omega)
  exact ⟨⟨((j + 1 : Nat) : Int), ⟨b.s_ ++ u⟩⟩, by simp only [J21, e1, decide_true, if_true, J56 _ j hlt, Option.bind_some, e2, J2q (show j < 1000000 by omega)], ⟨j + 1, t ++ u, rfl, by omega, by simp only [ht, List.append_assoc], by simp only [List.length_append, hl, hu]; omega⟩, by simp; omega⟩
 ·right
  obtain rfl : j = 16 := by omega
  have e1 : ¬ (((16 : Nat) : Nat) : Int) < 16 := by omega
  have a0 : IntKind.wrap .i64 (244 - ((b.s_.length : Nat) : Int)) = 24 := by rw [hbl, wrap64 (by omega) (by omega)]; omega
  have a1 := JcX (n := 24) (by omega) (by omega)
  have a2 : J1Z b.s_ (List.replicate (24 : Int).toNat 0) = some (b.s_ ++ List.replicate (24 : Int).toNat 0) := Jed (by omega) (by simp)
  obtain ⟨r, a3⟩ := JnI (b.s_ ++ List.replicate (24 : Int).toNat 0) (by simp [hbl])
  have a4 := J9L (b.s_ ++ List.replicate (24 : Int).toNat 0) (IntKind.wrap .i64 r) (k := 4) (by omega) (by omega) (by simp [hbl])
  have a5 := J9L (b.s_ ++ List.replicate (24 : Int).toNat 0 ++ JD (IntKind.wrap .i64 r) 4) p.LSN (k := 8) (by omega) (by omega) (by simp [hbl, Jx])
  refine ⟨(b.s_ ++ List.replicate (24 : Int).toNat 0 ++ JD (IntKind.wrap .i64 r) 4 ++ JD p.LSN 8, 0), ?_, ?_⟩
  ·simp only [J21, e1, decide_false, Bool.false_eq_true, if_false, J7h, a0, a1, a2, a3, Option.bind_some]
   rw [show (4 : Int) = ((4 : Nat) : Int) by rfl, a4, Option.bind_some, show (8 : Int) = ((8 : Nat) : Int) by rfl, a5]
   rfl
  ·refine ⟨rfl, by simp [hbl, Jx], ?_, ?_, ?_⟩
   ·rw [ht]
    simp only [List.append_assoc]
    rw [List.take_append_of_le_length (by rw [Jx]; omega), List.take_of_length_le (by rw [Jx]; omega)]
   ·rw [List.drop_append, List.drop_of_length_le (by simp [hbl, Jx]), List.nil_append]
    simp [hbl, Jx]
   ·rw [ht]
    simp only [List.append_assoc]
    rw [List.drop_append, List.drop_of_length_le (by rw [Jx]; omega), List.nil_append, Jx, Nat.sub_self, List.drop_zero, List.take_append_of_le_length (by rw [Jx]; omega), List.take_of_length_le (by rw [Jx]; omega)]
theorem Jju (p : T_api_Page) : ∃ r, J0S p = some r ∧ (J6r p → Jri p r) := by
 have hp : ∃ b, J1t p = some b ∧ (J6r p → b = true) := by
  unfold J1t J1z
  by_cases h1 : p.ID ≥ 0
  ·by_cases h2 : p.ID < 64
   ·by_cases h3 : p.LSN ≥ 0
    ·exact ⟨decide (p.LSN ≤ 1099511627776), by simp [h1, h2, h3], fun h => by simpa using h.lsn1⟩
    ·exact ⟨false, by simp [h1, h2, h3], fun h => (h3 h.lsn0).elim⟩
   ·exact ⟨false, by simp [h1, h2], fun h => (h2 h.id1).elim⟩
  ·exact ⟨false, by simp [h1], fun h => (h1 h.id0).elim⟩
 obtain ⟨b, e1, hb⟩ := hp
 obtain ⟨d, e2, hd, hd2⟩ := JlX p
 unfold J0S
 simp only [e1, e2, Option.bind_some]
 cases b with
 | false => exact ⟨_, rfl, fun h => by cases hb h⟩
 | true =>
  cases d with
  | false => exact ⟨_, rfl, fun h => by cases hd2 h.cells⟩
  | true =>
   have a1 := J9L [] p.LSN (k := 8) (by omega) (by omega) (by simp)
   have a2 := J9L ([] ++ JD p.LSN 8) p.ID (k := 4) (by omega) (by omega) (by simp [Jx])
   obtain ⟨r, hr, hq⟩ := Jp0 p (hd rfl) ([] ++ JD p.LSN 8 ++ JD p.ID 4) (by simp)
   refine ⟨r, ?_, fun _ => hq⟩
   simp only [if_true]
   rw [show (8 : Int) = ((8 : Nat) : Int) by rfl, a1, Option.bind_some, show (4 : Int) = ((4 : Nat) : Int) by rfl, a2, Option.bind_some]
   exact hr
theorem Jvs (s : List UInt8) (hs : s.length ≤ 1000) {at_ k : Nat} (h1 : 1 ≤ k) (h8 : k ≤ 8) (ha : at_ ≤ 1000) : ∃ r, JO s at_ k = some r := by
 have c1 : ¬ ((k : Int) < 1) := by omega
 have c2 : ¬ ((k : Int) > 8) := by omega
 have c3 : ¬ ((at_ : Int) < 0) := by omega
 unfold JO
 simp only [c1, c2, c3, decide_false, Bool.false_eq_true, if_false]
 by_cases c4 : (at_ : Int) > (s.length : Int)
 ·exact ⟨(0, 5), by simp only [c4, decide_true, if_true]⟩
 ·have e0 : IntKind.wrap .i64 ((s.length : Int) - at_) = (s.length : Int) - at_ := wrap64 (by omega) (by omega)
  simp only [c4, decide_false, Bool.false_eq_true, if_false, e0]
  by_cases c5 : (s.length : Int) - at_ < k
  ·exact ⟨(0, 5), by simp only [c5, decide_true, if_true]⟩
  ·simp only [c5, decide_false, Bool.false_eq_true, if_false]
   obtain ⟨r, hr, _⟩ := J0R (f := fun q : Int × Int => J0a s at_ k q.1 q.2) (fun q => ∃ j : Nat, q.2 = j ∧ j ≤ k) (fun q => (k - q.2).toNat) (fun _ => True) (fun q ⟨j, hj, h4⟩ => by
    obtain ⟨x, j'⟩ := q
    simp only at hj
    subst hj
    by_cases hlt : j < k
    ·left
     have e1 : ((j : Nat) : Int) < (k : Int) := by omega
     have e2 : IntKind.wrap .i64 ((at_ : Int) + (j : Int)) = ((at_ + j : Nat) : Int) := by rw [wrap64 (by omega) (by omega)]; omega
     have e3 : IntKind.wrap .i64 (8 * (j : Int)) = ((8 * j : Nat) : Int) := by rw [wrap64 (by omega) (by omega)]; omega
     have e4 : ∀ z : Int, ∃ y, JdR .u64 z ((8 * j : Nat) : Int) = some y := fun z => ⟨_, if_neg (by omega)⟩
     obtain ⟨y, e5⟩ := e4 (IntKind.wrap .u64 (((s[at_ + j]).toNat : Nat) : Int))
     exact ⟨⟨_, ((j + 1 : Nat) : Int)⟩, by simp only [J0a, e1, decide_true, if_true, e2, J8t (show at_ + j < s.length by omega), Option.bind_some, e3, e5, J2q (show j < 1000000 by omega)]; rfl, ⟨j + 1, rfl, by omega⟩, by simp; omega⟩
    ·right
     have e1 : ¬ ((j : Nat) : Int) < (k : Int) := by omega
     exact ⟨_, by simp only [J0a, e1, decide_false, Bool.false_eq_true, if_false, J5O, Option.map_some]; rfl, trivial⟩) (0, 0) ⟨0, rfl, by omega⟩
   exact ⟨r, hr⟩
theorem JiG (s : List UInt8) (hs : s.length ≤ 1000) {at_ : Nat} (ha : at_ < s.length) : JO s at_ 1 = some (((s[at_]).toNat : Int), 0) := by
 have c3 : ¬ ((at_ : Int) < 0) := by omega
 have c4 : ¬ ((at_ : Int) > (s.length : Int)) := by omega
 have e0 : IntKind.wrap .i64 ((s.length : Int) - at_) = (s.length : Int) - at_ := wrap64 (by omega) (by omega)
 have c5 : ¬ ((s.length : Int) - at_ < 1) := by omega
 unfold JO
 simp only [show ¬ ((1 : Int) < 1) by omega, show ¬ ((1 : Int) > 8) by omega, c3, c4, e0, c5, decide_false, Bool.false_eq_true, if_false]
 have hu : (s[at_]).toNat < 256 := UInt8.toNat_lt _
 have w0 : IntKind.wrap .u64 (((s[at_]).toNat : Nat) : Int) = (((s[at_]).toNat : Nat) : Int) := J9w (by omega) (by omega)
 have e2 : IntKind.wrap .i64 ((at_ : Int) + 0) = (at_ : Int) := by rw [wrap64 (by omega) (by omega)]; omega
 have e3 : JdR .u64 (((s[at_]).toNat : Nat) : Int) (IntKind.wrap .i64 (8 * 0)) = some (((s[at_]).toNat : Nat) : Int) := by
  rw [show IntKind.wrap .i64 (8 * 0) = 0 by rfl]
  show some (IntKind.wrap .u64 ((((s[at_]).toNat : Nat) : Int) * 2 ^ 0)) = _
  rw [show ((((s[at_]).toNat : Nat) : Int) * 2 ^ 0) = (((s[at_]).toNat : Nat) : Int) by omega, w0]
 have e4 : orI .u64 0 (((s[at_]).toNat : Nat) : Int) = (((s[at_]).toNat : Nat) : Int) := by
  have h2 : (BitVec.ofInt 64 0 ||| BitVec.ofInt 64 (((s[at_]).toNat : Nat) : Int)).toNat = (s[at_]).toNat := by
   rw [show BitVec.ofInt 64 0 = 0#64 by rfl, BitVec.zero_or, BitVec.toNat_ofInt]
   omega
  show IntKind.wrap .u64 (((BitVec.ofInt 64 0 ||| BitVec.ofInt 64 (((s[at_]).toNat : Nat) : Int)).toNat : Nat) : Int) = _
  rw [h2, w0]
 have s0 : J0a s at_ 1 0 0 = some (.inl ((((s[at_]).toNat : Nat) : Int), 1)) := by
  simp only [J0a, show ((0 : Int) < 1) by omega, decide_true, if_true, e2, J8t ha, Option.bind_some, w0, e3, e4, show IntKind.wrap .i64 ((0 : Int) + 1) = 1 by rfl]
 have s1 : J0a s at_ 1 (((s[at_]).toNat : Nat) : Int) 1 = some (.inr ((((s[at_]).toNat : Nat) : Int), 0)) := by
  simp only [J0a, show ¬ ((1 : Int) < 1) by omega, decide_false, Bool.false_eq_true, if_false, J5O, Option.map_some, wrap64 (show -9223372036854775808 ≤ (((s[at_]).toNat : Nat) : Int) by omega) (by omega)]
 exact (J2b (f := fun q : Int × Int => J0a s at_ 1 q.1 q.2) (s := (0, 0)) s0).trans (J0E s1)
theorem JaZ (s : List UInt8) (hs : s.length ≤ 1000) {at_ k : Nat} (h1 : 1 ≤ k) (h8 : k ≤ 8) (ha : at_ ≤ 1000) : ∃ r, JP s at_ k = some r := by
 obtain ⟨r, hr⟩ := Jvs s hs h1 h8 ha
 exact ⟨r.1, by simp [JP, hr]⟩
theorem Js1 {α : Type} (l : List α) {a b : Nat} (h1 : a ≤ b) (h2 : b ≤ l.length) : J0Z l (some (a : Int)) (some (b : Int)) = some ((l.drop a).take (b - a)) := by
 have e1 : (0 : Int) ≤ b ∧ (b : Int) ≤ l.length := by omega
 have e2 : (0 : Int) ≤ a ∧ (a : Int) ≤ b := by omega
 simp only [J0Z, JgX, JdH, e1, e2, and_self, if_true, Int.toNat_natCast]
theorem JcW {α : Type} (l : List α) {b : Nat} (h2 : b ≤ l.length) : J0Z l none (some (b : Int)) = some (l.take b) := by
 have e1 : (0 : Int) ≤ b ∧ (b : Int) ≤ l.length := by omega
 simp only [J0Z, JgX, JdH, e1, and_self, if_true, Int.toNat_natCast, List.drop_zero, Nat.sub_zero]
theorem JcC {α : Type} (l : List α) {a : Nat} (h2 : a ≤ l.length) : J0Z l (some (a : Int)) none = some (l.drop a) := by
 have e1 : (0 : Int) ≤ a ∧ (a : Int) ≤ l.length := by omega
 simp only [J0Z, JgX, JdH, e1, and_self, if_true, Int.toNat_natCast]
 rw [List.take_of_length_le (by simp)]
theorem JoC (s : List UInt8) (hs : s.length = 256) : ∃ r, J66 s = some r := by
 obtain ⟨r1, a1⟩ := JaZ s (by omega) (at_ := 8) (k := 4) (by omega) (by omega) (by omega)
 obtain ⟨r2, a2⟩ := JaZ s (by omega) (at_ := 0) (k := 8) (by omega) (by omega) (by omega)
 have a1' : JP s 8 4 = some r1 := a1
 have a2' : JP s 0 8 = some r2 := a2
 unfold J66
 simp only [a1', a2', Option.bind_some]
 obtain ⟨r, hr, _⟩ := J0R (f := fun q : Int × T_api_Page => J1d s ⟨0, 0, Vector.replicate 16 ⟨false, []⟩⟩ q.1 q.2) (fun q => ∃ j : Nat, q.1 = j ∧ j ≤ 16) (fun q => (16 - q.1).toNat) (fun _ => True) (fun q ⟨j, hj, h4⟩ => by
  obtain ⟨j', p⟩ := q
  simp only at hj
  subst hj
  by_cases hlt : j < 16
  ·have e1 : ((j : Nat) : Int) < 16 := by omega
   have e2 : IntKind.wrap .i64 (12 + IntKind.wrap .i64 ((j : Int) * 13)) = ((12 + 13 * j : Nat) : Int) := by
    rw [wrap64 (n := (j : Int) * 13) (by omega) (by omega), wrap64 (by omega) (by omega)]; omega
   have hu : (s[12 + 13 * j]'(by omega)).toNat < 256 := UInt8.toNat_lt _
   have e3 : JP s ((12 + 13 * j : Nat) : Int) 1 = some (((s[12 + 13 * j]'(by omega)).toNat : Nat) : Int) := by
    simp only [JP, JiG s (by omega) (show 12 + 13 * j < s.length by omega), Option.bind_some]
   generalize hv : (s[12 + 13 * j]'(by omega)).toNat = v at e3 hu
   by_cases h255 : v = 255
   ·left
    subst h255
    exact ⟨⟨((j + 1 : Nat) : Int), p⟩, by simp only [J1d, e1, decide_true, if_true, e2, e3, Option.bind_some, J2q (show j < 1000000 by omega)]; rfl, ⟨j + 1, rfl, by omega⟩, by simp; omega⟩
   ·have e4 : (((v : Nat) : Int) == 255) = false := by simp; omega
    by_cases h12 : ((v : Nat) : Int) > 12
    ·right
     exact ⟨_, by simp only [J1d, e1, decide_true, if_true, e2, e3, Option.bind_some, e4, Bool.false_eq_true, if_false, h12]; rfl, trivial⟩
    ·left
     have e5 : IntKind.wrap .i64 (((12 + 13 * j : Nat) : Int) + 1) = ((13 + 13 * j : Nat) : Int) := by rw [wrap64 (by omega) (by omega)]; omega
     have e6 : IntKind.wrap .i64 (((13 + 13 * j : Nat) : Int) + ((v : Nat) : Int)) = ((13 + 13 * j + v : Nat) : Int) := by rw [wrap64 (by omega) (by omega)]; omega
     have e7 := Js1 s (a := 13 + 13 * j) (b := 13 + 13 * j + v) (by omega) (by omega)
     exact ⟨⟨((j + 1 : Nat) : Int), _⟩, by simp only [J1d, e1, decide_true, if_true, e2, e3, Option.bind_some, e4, Bool.false_eq_true, if_false, h12, decide_false, e5, e6, e7, J9v hlt, J56 _ j hlt, J2q (show j < 1000000 by omega)]; rfl, ⟨j + 1, rfl, by omega⟩, by simp; omega⟩
  ·right
   have e1 : ¬ ((j : Nat) : Int) < 16 := by omega
   exact ⟨_, by simp only [J1d, e1, decide_false, Bool.false_eq_true, if_false, J6Q, Option.map_some]; rfl, trivial⟩) (0, ⟨r1, r2, Vector.replicate 16 ⟨false, []⟩⟩) ⟨0, rfl, by omega⟩
 exact ⟨r, hr⟩
end Go.Am
end
section
namespace Go.Am
def blk : List UInt8 := List.replicate 256 0
theorem Jv2 : blk.length = 256 := by decide +kernel
theorem JtN : blk.take 8 = JD 0 8 := by decide +kernel
theorem Jt8 : blk.drop 248 = JD 0 8 := by decide +kernel
theorem Jic : J6n = some blk := by
 unfold J6n
 rw [JcX (n := 256) (by omega) (by omega)]
 rfl
theorem Jr4 (x : List UInt8) (hx : x.length = 256) : ∃ r, J1h x = some r ∧ (r.2 = 0 ∨ r.2 = 7 → x.take 8 = x.drop 248) := by
 unfold J1h
 have e0 : (((x.length : Nat) : Int) != 256) = false := by rw [hx]; rfl
 have e1 : J0Z x none (some 8) = some (x.take 8) := JcW x (b := 8) (by omega)
 have e2 : J0Z x (some 248) none = some (x.drop 248) := JcC x (a := 248) (by omega)
 have e3 : J0Z x none (some 244) = some (x.take 244) := JcW x (b := 244) (by omega)
 obtain ⟨n, e4⟩ := JaZ x (by omega) (at_ := 244) (k := 4) (by omega) (by omega) (by omega)
 have e4' : JP x 244 4 = some n := e4
 obtain ⟨c, e5⟩ := JnI (x.take 244) (by simp; omega)
 obtain ⟨p, e6⟩ := JoC x hx
 obtain ⟨q, e7, _⟩ := Jju p.1
 simp only [e0, Bool.false_eq_true, if_false, Jic, Option.bind_some]
 by_cases hb : x = blk
 ·refine ⟨_, by rw [if_pos (by simpa using hb)], fun _ => ?_⟩
  rw [hb, JtN, Jt8]
 ·have hb' : (x == blk) = false := by simpa using hb
  simp only [hb', Bool.false_eq_true, if_false, e1, e2, Option.bind_some]
  by_cases hp : x.take 8 = x.drop 248
  ·have hp' : (x.take 8 == x.drop 248) = true := by simpa using hp
   simp only [hp', if_true, e4', e3, e5, e6, e7, Option.bind_some]
   split
   ·exact ⟨_, rfl, fun _ => hp⟩
   ·split
    ·split
     ·exact ⟨_, rfl, fun _ => hp⟩
     ·split
      ·exact ⟨_, rfl, fun _ => hp⟩
      ·exact ⟨_, rfl, fun _ => hp⟩
    ·exact ⟨_, rfl, fun _ => hp⟩
  ·have hp' : (x.take 8 == x.drop 248) = false := by simpa using hp
   simp only [hp', Bool.false_eq_true, if_false]
   exact ⟨_, rfl, fun h => by rcases h with h | h <;> cases h⟩
end Go.Am
end
section
namespace Go.Am
theorem JrH {x b j : Nat} (hj : j ≤ 7) (hx : x < 2 ^ (8 * j)) (hb : b < 256) :
  orI .u64 (x : Int) (IntKind.wrap .u64 (((b : Nat) : Int) * 2 ^ (8 * j))) = ((x + b * 2 ^ (8 * j) : Nat) : Int) := by
 have p1 : (2 : Nat) ^ (8 * j) * 256 ≤ 2 ^ 64 := by
  rw [show (256 : Nat) = 2 ^ 8 by rfl, ← Nat.pow_add]
  exact Nat.pow_le_pow_right (by omega) (by omega)
 have p2 : b * 2 ^ (8 * j) + 2 ^ (8 * j) ≤ 2 ^ 64 := by
  have : (b + 1) * 2 ^ (8 * j) ≤ 256 * 2 ^ (8 * j) := Nat.mul_le_mul_right _ (by omega)
  rw [Nat.add_mul, Nat.one_mul] at this
  omega
 have w : IntKind.wrap .u64 (((b : Nat) : Int) * 2 ^ (8 * j)) = ((b * 2 ^ (8 * j) : Nat) : Int) := by
  have e : (((b : Nat) : Int) * 2 ^ (8 * j)) = ((b * 2 ^ (8 * j) : Nat) : Int) := by simp
  rw [e, J9w (by omega) (by omega)]
 rw [w]
 have e1 : ∀ y : Nat, y < 2 ^ 64 → (BitVec.ofInt 64 (y : Int)).toNat = y := by
  intro y hy
  rw [BitVec.toNat_ofInt]
  omega
 show IntKind.wrap .u64 (((BitVec.ofInt 64 (x : Int) ||| BitVec.ofInt 64 ((b * 2 ^ (8 * j) : Nat) : Int)).toNat : Nat) : Int) = _
 rw [BitVec.toNat_or, e1 x (by omega), e1 _ (by omega)]
 have e2 : x ||| b * 2 ^ (8 * j) = x + b * 2 ^ (8 * j) := by
  rw [Nat.or_comm, Nat.mul_comm b, ← Nat.two_pow_add_eq_or_of_lt hx, Nat.add_comm]
 rw [e2, J9w (by omega) (by omega)]
theorem Jce {n i : Nat} (hn : n < 2 ^ 64) : J6A (n : Int) i = ((n / 2 ^ (8 * i) % 256 : Nat) : Int) := by
 show ((IntKind.wrap .u64 (n : Int)).fdiv (2 ^ (8 * i))) % 256 = _
 rw [Int.fdiv_eq_ediv_of_nonneg _ (Int.le_of_lt (Int.pow_pos (by decide))), J9w (by omega) (by omega)]
 simp
theorem Jtv {n : Int} {k i : Nat} (h : i < k) : (JD n k)[i]? = some (UInt8.ofNat (J6A n i).toNat) := by
 simp [JD, toStr, h]
theorem JvX (pre post : List UInt8) {n k : Nat} (h1 : 1 ≤ k) (h8 : k ≤ 8) (hn : n < 2 ^ (8 * k)) (hn2 : n < 2 ^ 63) (hl : (pre ++ (JD n k ++ post)).length ≤ 1000000) :
  JO (pre ++ (JD n k ++ post)) (pre.length : Int) (k : Int) = some ((n : Int), 0) := by
 generalize hs : pre ++ (JD n k ++ post) = s at hl
 have hlen : pre.length + k ≤ s.length := by rw [← hs]; simp [Jx]
 have c1 : ¬ ((k : Int) < 1) := by omega
 have c2 : ¬ ((k : Int) > 8) := by omega
 have c3 : ¬ ((pre.length : Int) < 0) := by omega
 have c4 : ¬ ((pre.length : Int) > (s.length : Int)) := by omega
 have e0 : IntKind.wrap .i64 ((s.length : Int) - pre.length) = (s.length : Int) - pre.length := wrap64 (by omega) (by omega)
 have c5 : ¬ ((s.length : Int) - pre.length < k) := by omega
 unfold JO
 simp only [c1, c2, c3, c4, c5, e0, decide_false, Bool.false_eq_true, if_false]
 have key : ∀ (m j : Nat), j + m = k → Jr (fun q : Int × Int => J0a s pre.length k q.1 q.2) (((n % 2 ^ (8 * j) : Nat) : Int), (j : Int)) = some ((n : Int), 0) := by
  intro m
  induction m with
  | zero =>
   intro j hj
   obtain rfl : j = k := by omega
   have e1 : ¬ ((j : Nat) : Int) < (j : Int) := by omega
   refine J0E ?_
   simp only [J0a, e1, decide_false, Bool.false_eq_true, if_false, J5O, Option.map_some, Nat.mod_eq_of_lt hn]
   rw [wrap64 (by omega) (by omega)]
  | succ m ih =>
   intro j hj
   have e1 : ((j : Nat) : Int) < (k : Int) := by omega
   have e2 : IntKind.wrap .i64 ((pre.length : Int) + (j : Int)) = ((pre.length + j : Nat) : Int) := by rw [wrap64 (by omega) (by omega)]; omega
   have e3 : IntKind.wrap .i64 (8 * (j : Int)) = ((8 * j : Nat) : Int) := by rw [wrap64 (by omega) (by omega)]; omega
   have hb : (s[pre.length + j]'(by omega)).toNat = n / 2 ^ (8 * j) % 256 := by
    have h5 : s[pre.length + j]? = some (UInt8.ofNat (J6A (n : Int) j).toNat) := by
     rw [← hs, List.getElem?_append_right (by omega), Nat.add_sub_cancel_left, List.getElem?_append_left (by rw [Jx]; omega), Jtv (by omega)]
    rw [List.getElem?_eq_getElem (by omega)] at h5
    injection h5 with h5
    have h6 := Jjo (n : Int) j
    rw [← h5, Jce (by omega)] at h6
    omega
   have hb2 : n / 2 ^ (8 * j) % 256 < 256 := Nat.mod_lt _ (by omega)
   have e4 : JdR .u64 (IntKind.wrap .u64 (((s[pre.length + j]'(by omega)).toNat : Nat) : Int)) ((8 * j : Nat) : Int) = some (IntKind.wrap .u64 (((n / 2 ^ (8 * j) % 256 : Nat) : Int) * 2 ^ (8 * j))) := by
    rw [hb, J9w (by omega) (by omega)]
    simp only [JdR]
    rw [if_neg (by omega)]
    have : min (((8 * j : Nat) : Int)).toNat IntKind.u64.bits = 8 * j := by
     simp only [Int.toNat_natCast]
     exact Nat.min_eq_left (by show 8 * j ≤ 64; omega)
    rw [this]
   have e5 := JrH (x := n % 2 ^ (8 * j)) (b := n / 2 ^ (8 * j) % 256) (j := j) (by omega) (Nat.mod_lt _ (Nat.two_pow_pos _)) hb2
   have e6 : n % 2 ^ (8 * j) + n / 2 ^ (8 * j) % 256 * 2 ^ (8 * j) = n % 2 ^ (8 * (j + 1)) := by
    rw [Nat.mul_add, Nat.pow_add, Nat.mod_mul, Nat.mul_comm (n / 2 ^ (8 * j) % 256)]
   rw [e6] at e5
   refine (J2b (s' := (((n % 2 ^ (8 * (j + 1)) : Nat) : Int), ((j + 1 : Nat) : Int))) ?_).trans (ih (j + 1) (by omega))
   simp only [J0a, e1, decide_true, if_true, e2, J8t (show pre.length + j < s.length by omega), Option.bind_some, e3, e4, e5, J2q (show j < 1000000 by omega)]
 have h0 := key k 0 (by omega)
 simp only [Nat.mul_zero, Nat.pow_zero, Nat.mod_one] at h0
 exact h0
end Go.Am
end
section
namespace Go.Am
def Jcd (c : Jf) : List UInt8 := JD (if c.Set then (c.Data.length : Int) else 255) 1 ++ c.Data ++ List.replicate (12 - c.Data.length) 0
theorem JrV {c : Jf} (h : c.Data.length ≤ 12) : (Jcd c).length = 13 := by
 simp only [Jcd, List.length_append, Jx, List.length_replicate]; omega
theorem JrE (b : T_page_builder) (c : Jf) (hc : c.Data.length ≤ 12) (hb : b.s_.length ≤ 300) : J1P b c = some ⟨b.s_ ++ Jcd c⟩ := by
 have go : ∀ x : Int, J1k x b c = some ⟨b.s_ ++ (JD x 1 ++ c.Data ++ List.replicate (12 - c.Data.length) 0)⟩ := by
  intro x
  have e0 : IntKind.wrap .i64 (12 - ((c.Data.length : Nat) : Int)) = ((12 - c.Data.length : Nat) : Int) := by rw [wrap64 (by omega) (by omega)]; omega
  have e1 := J9L b.s_ x (k := 1) (by omega) (by omega) (by omega)
  have e2 : J1Z (b.s_ ++ JD x 1) c.Data = some (b.s_ ++ JD x 1 ++ c.Data) := Jed (by rw [List.length_append, Jx]; omega) (by omega)
  have e3 := JcX (n := ((12 - c.Data.length : Nat) : Int)) (by omega) (by omega)
  rw [Int.toNat_natCast] at e3
  have e4 : J1Z (b.s_ ++ JD x 1 ++ c.Data) (List.replicate (12 - c.Data.length) 0) = some (b.s_ ++ JD x 1 ++ c.Data ++ List.replicate (12 - c.Data.length) 0) := Jed (by simp only [List.length_append, Jx]; omega) (by simp; omega)
  unfold J1k
  rw [show (1 : Int) = ((1 : Nat) : Int) by rfl, e1, Option.bind_some, e2, Option.bind_some, e0, e3, Option.bind_some, e4, Option.bind_some]
  simp only [List.append_assoc]
 unfold J1P Jcd
 cases hs : c.Set with
 | true => simp only [if_true]; exact go _
 | false => simp only [Bool.false_eq_true, if_false]; exact go _
end Go.Am
end
section
namespace Go.Am
def J50 (l : List Jf) : List UInt8 := (l.map Jcd).flatten
theorem Jcm : ∀ {l : List Jf}, (∀ c ∈ l, c.Data.length ≤ 12) → (J50 l).length = 13 * l.length
 | [], _ => rfl
 | c :: l, h => by
  have h1 := JrV (h c (by simp))
  have h2 := Jcm (l := l) fun d hd => h d (by simp [hd])
  simp only [J50, List.map_cons, List.flatten_cons, List.length_append, List.length_cons] at h2 ⊢
  omega
theorem JhZ (l : List Jf) (c : Jf) : J50 (l ++ [c]) = J50 l ++ Jcd c := by simp [J50]
def J36 (p : T_api_Page) : List UInt8 := JD p.LSN 8 ++ JD p.ID 4 ++ J50 p.Cells.toList ++ List.replicate 24 0
theorem Jp2 {p : T_api_Page} (hp : J6r p) : ∃ c, J24 (J36 p) = some c ∧ J0S p = some (J36 p ++ JD (IntKind.wrap .i64 c) 4 ++ JD p.LSN 8, 0) := by
 have hd : ∀ c ∈ p.Cells.toList, c.Data.length ≤ 12 := by
  intro c hc
  obtain ⟨i, hi, rfl⟩ := List.getElem_of_mem hc
  have h16 : i < 16 := by simpa using hi
  have := (hp.cells i h16).1
  simpa using this
 have loop := J0R (f := fun s : Int × T_page_builder => J21 p.Cells p s.1 s.2) (fun s => ∃ j : Nat, s.1 = j ∧ j ≤ 16 ∧ s.2.s_ = JD p.LSN 8 ++ JD p.ID 4 ++ J50 (p.Cells.toList.take j)) (fun s => (16 - s.1).toNat)
  (fun r => ∃ c, J24 (J36 p) = some c ∧ r = (J36 p ++ JD (IntKind.wrap .i64 c) 4 ++ JD p.LSN 8, 0)) (fun s ⟨j, hj, h4, ht⟩ => by
  obtain ⟨j', b⟩ := s
  simp only at hj ht
  subst hj
  have hl : (J50 (p.Cells.toList.take j)).length = 13 * j := by
   rw [Jcm fun c hc => hd c (List.mem_of_mem_take hc)]
   simp; omega
  have hbl : b.s_.length = 12 + 13 * j := by rw [ht]; simp only [List.length_append, Jx, hl]
  by_cases hlt : j < 16
  ·left
   have e1 : ((j : Nat) : Int) < 16 := by omega
   have e2 := JrE b p.Cells[j] (hp.cells j hlt).1 (by omega)
   have e3 : p.Cells.toList.take (j + 1) = p.Cells.toList.take j ++ [p.Cells[j]] := by
    rw [List.take_add_one, List.getElem?_eq_getElem (by simpa using hlt)]
    simp
   exact ⟨⟨((j + 1 : Nat) : Int), ⟨b.s_ ++ Jcd p.Cells[j]⟩⟩, by simp only [J21, e1, decide_true, if_true, J56 _ j hlt, Option.bind_some, e2, J2q (show j < 1000000 by omega)], ⟨j + 1, rfl, by omega, by show b.s_ ++ _ = _; rw [ht, e3, JhZ]; simp only [List.append_assoc]⟩, by simp; omega⟩
  ·right
   obtain rfl : j = 16 := by omega
   have e1 : ¬ (((16 : Nat) : Nat) : Int) < 16 := by omega
   have e5 : p.Cells.toList.take 16 = p.Cells.toList := List.take_of_length_le (by simp)
   rw [e5] at ht
   have a0 : IntKind.wrap .i64 (244 - ((b.s_.length : Nat) : Int)) = 24 := by rw [hbl, wrap64 (by omega) (by omega)]; omega
   have a1 : J3S [0] 24 = some (List.replicate 24 0) := JcX (n := 24) (by omega) (by omega)
   have a6 : b.s_ ++ List.replicate 24 0 = J36 p := by rw [ht]; rfl
   have a7 : (J36 p).length = 244 := by rw [← a6]; simp [hbl]
   have a2 : J1Z b.s_ (List.replicate 24 0) = some (J36 p) := by rw [← a6]; exact Jed (by omega) (by simp)
   obtain ⟨r, a3⟩ := JnI (J36 p) (by omega)
   have a4 := J9L (J36 p) (IntKind.wrap .i64 r) (k := 4) (by omega) (by omega) (by omega)
   have a5 := J9L (J36 p ++ JD (IntKind.wrap .i64 r) 4) p.LSN (k := 8) (by omega) (by omega) (by simp [a7, Jx])
   refine ⟨_, ?_, r, a3, rfl⟩
   simp only [J21, e1, decide_false, Bool.false_eq_true, if_false, J7h, a0, a1, a2, a3, Option.bind_some]
   rw [show (4 : Int) = ((4 : Nat) : Int) by rfl, a4, Option.bind_some, show (8 : Int) = ((8 : Nat) : Int) by rfl, a5]
   rfl) (0, ⟨JD p.LSN 8 ++ JD p.ID 4⟩) ⟨0, rfl, by omega, by simp [J50]⟩
 obtain ⟨r, hr, c, hc, rfl⟩ := loop
 refine ⟨c, hc, ?_⟩
 obtain ⟨d, e2, _, hd2⟩ := JlX p
 have hd3 := hd2 hp.cells
 subst hd3
 have e1 : J1t p = some true := by
  have i0 := hp.id0; have i1 := hp.id1; have l0 := hp.lsn0; have l1 := hp.lsn1
  simp [J1t, J1z, i0, i1, l0, l1]
 have a1 := J9L [] p.LSN (k := 8) (by omega) (by omega) (by simp)
 have a2 := J9L ([] ++ JD p.LSN 8) p.ID (k := 4) (by omega) (by omega) (by simp [Jx])
 unfold J0S
 simp only [e1, e2, Option.bind_some, if_true]
 rw [show (8 : Int) = ((8 : Nat) : Int) by rfl, a1, Option.bind_some, show (4 : Int) = ((4 : Nat) : Int) by rfl, a2, Option.bind_some, List.nil_append]
 exact hr
end Go.Am
end
section
namespace Go.Am
theorem JcA {p : T_api_Page} (hp : J6r p) : (J36 p).length = 244 := by
 have hd : ∀ c ∈ p.Cells.toList, c.Data.length ≤ 12 := by
  intro c hc
  obtain ⟨i, hi, rfl⟩ := List.getElem_of_mem hc
  have h16 : i < 16 := by simpa using hi
  have := (hp.cells i h16).1
  simpa using this
 unfold J36
 simp only [List.length_append, Jx, List.length_replicate]
 rw [Jcm hd]
 simp
end Go.Am
end
section
namespace Go.Am
end Go.Am
end
section
namespace Go.Am
theorem JsG {b : T_pagemenddraw_Codes} (hb : J0r b) : ∃ x b', J2W b = some (x, b') ∧ J0r b' := by
 obtain ⟨r, b1, e1, hb1, _, _⟩ := J39 hb (n := 10) (by omega) (by omega)
 unfold J2W
 simp only [e1, Option.bind_some]
 by_cases h0 : r = 0
 ·obtain ⟨r2, b2, e2, hb2, _, _⟩ := J39 hb1 (n := 3) (by omega) (by omega)
  exact ⟨_, b2, by rw [if_pos (by simpa using h0), e2]; rfl, hb2⟩
 ·rw [if_neg (by simpa using h0)]
  by_cases h1 : r = 1
  ·obtain ⟨r2, b2, e2, hb2, hr0, hr1⟩ := J39 hb1 (n := 16) (by omega) (by omega)
   obtain ⟨k, rfl⟩ : ∃ k : Nat, r2 = (k : Int) := ⟨r2.toNat, by omega⟩
   rw [if_pos (by simpa using h1), e2]
   simp only [Option.bind_some, J3y]
   rw [List.getElem?_eq_getElem (by simp; omega)]
   exact ⟨_, b2, rfl, hb2⟩
  ·obtain ⟨r2, b2, e2, hb2, _, _⟩ := J39 hb1 (n := 20) (by omega) (by omega)
   rw [if_neg (by simpa using h1), e2]
   exact ⟨_, b2, rfl, hb2⟩
end Go.Am
end
section
namespace Go.Am
def Jh9 (p : T_api_Page) : Prop := ∀ (i : Nat) (h : i < 16), J5V p.LSN p.Cells[i]
theorem JlM (p : T_api_Page) : ∃ b, J5v p = some b ∧ (b = true ↔ Jh9 p) := by
 refine J0R (f := fun s : Int => J06 p.Cells p s) (fun s => ∃ j : Nat, s = j ∧ j ≤ 16 ∧ ∀ (i : Nat) (h : i < 16), i < j → J5V p.LSN p.Cells[i]) (fun s => (16 - s).toNat)
  (fun b => b = true ↔ Jh9 p) (fun s ⟨j, hj, h4, hc⟩ => ?_) 0 ⟨0, rfl, by omega, fun i h hh => by omega⟩
 subst hj
 by_cases hlt : j < 16
 ·have e1 : ((j : Nat) : Int) < 16 := by omega
  have e2 := J56 p.Cells j hlt
  have e3 := J2q (show j < 1000000 by omega)
  have bad : ¬ J5V p.LSN p.Cells[j] → (false = true ↔ Jh9 p) := fun h1 => ⟨fun h => (by cases h), fun h2 => (h1 (h2 j hlt)).elim⟩
  have nxt : J5V p.LSN p.Cells[j] → ∀ (i : Nat) (h : i < 16), i < j + 1 → J5V p.LSN p.Cells[i] := by
   intro hok i hi hij
   by_cases hh : i < j
   ·exact hc i hi hh
   ·obtain rfl : i = j := by omega
    exact hok
  by_cases h12 : (((p.Cells[j]).Data.length : Nat) : Int) > 12
  ·right
   exact ⟨false, by simp only [J06, e1, decide_true, if_true, e2, Option.bind_some, h12], bad fun h => by have := h.1; omega⟩
  ·by_cases hs : (p.Cells[j]).Set = true
   ·by_cases hl : p.LSN = 0
    ·right
     exact ⟨false, by simp only [J06, e1, decide_true, if_true, e2, Option.bind_some, h12, decide_false, Bool.false_eq_true, if_false, hs, hl, beq_self_eq_true], bad fun h => h.2.2 hs hl⟩
    ·left
     have e4 : (p.LSN == 0) = false := by simpa using hl
     exact ⟨((j + 1 : Nat) : Int), by simp only [J06, e1, decide_true, if_true, e2, Option.bind_some, h12, decide_false, Bool.false_eq_true, if_false, hs, e4, e3], ⟨j + 1, rfl, by omega, nxt ⟨by omega, (fun h => by rw [hs] at h; cases h), fun _ => hl⟩⟩, by omega⟩
   ·have hs' : (p.Cells[j]).Set = false := by simpa using hs
    by_cases hd : (p.Cells[j]).Data = []
    ·left
     exact ⟨((j + 1 : Nat) : Int), by simp only [J06, e1, decide_true, if_true, e2, Option.bind_some, h12, decide_false, Bool.false_eq_true, if_false, hs', hd, beq_self_eq_true, e3]; rfl, ⟨j + 1, rfl, by omega, nxt ⟨by omega, fun _ => hd, fun h => (hs h).elim⟩⟩, by omega⟩
    ·right
     have e4 : ((p.Cells[j]).Data == []) = false := by simpa using hd
     exact ⟨false, by simp only [J06, e1, decide_true, if_true, e2, Option.bind_some, h12, decide_false, Bool.false_eq_true, if_false, hs', e4], bad fun h => hd (h.2.1 hs')⟩
 ·right
  have e1 : ¬ ((j : Nat) : Int) < 16 := by omega
  exact ⟨true, by simp only [J06, e1, decide_false, Bool.false_eq_true, if_false, J7J, Option.map_some], fun _ i h => hc i h (by omega), fun _ => rfl⟩
end Go.Am
end
section
namespace Go.Am
theorem JgN {n : Int} (h0 : 0 ≤ n) (h1 : n ≤ 1000000) : J2r n = some (List.replicate n.toNat 0) := by
 have e : (0 : Int) ≤ n ∧ n ≤ n ∧ ((1 : Nat) : Int) * n ≤ 281474976710656 ∧ n ≤ 281474976710656 := by omega
 have e2 : toStr (List.replicate n.toNat (0 : Int)) = List.replicate n.toNat 0 := by
  simp [toStr]
 unfold J2r mkS
 rw [if_pos e, Option.bind_some, e2]
theorem JlQ : J4Q = some blk := by
 unfold J4Q
 rw [JgN (by omega) (by omega)]
 rfl
theorem JvZ (n : Int) : J8A n = J9q n := rfl
theorem JpA (p : T_api_Page) : J4e p = J1t p := by
 unfold J4e J1t J1z
 by_cases h1 : p.ID ≥ 0
 ·by_cases h2 : p.ID < 64
  ·simp only [h1, h2, decide_true, if_true, Option.bind_some]
  ·simp only [h1, h2, decide_true, decide_false, if_true, Bool.false_eq_true, if_false, Option.bind_some]
 ·simp only [h1, decide_false, Bool.false_eq_true, if_false, Option.bind_some]
theorem JqK (p : T_api_Page) : ∃ b, J1t p = some b ∧ (b = true ↔ (0 ≤ p.ID ∧ p.ID < 64 ∧ 0 ≤ p.LSN ∧ p.LSN ≤ 1099511627776)) := by
 unfold J1t J1z
 by_cases h1 : p.ID ≥ 0
 ·by_cases h2 : p.ID < 64
  ·by_cases h3 : p.LSN ≥ 0
   ·refine ⟨decide (p.LSN ≤ 1099511627776), by simp only [h1, h2, h3, decide_true, if_true, Option.bind_some], ?_⟩
    rw [decide_eq_true_eq]
    exact ⟨fun h => ⟨h1, h2, h3, h⟩, fun h => h.2.2.2⟩
   ·exact ⟨false, by simp only [h1, h2, h3, decide_true, decide_false, if_true, Bool.false_eq_true, if_false, Option.bind_some], by simp; omega⟩
  ·exact ⟨false, by simp only [h1, h2, decide_true, decide_false, if_true, Bool.false_eq_true, if_false, Option.bind_some], by simp; omega⟩
 ·exact ⟨false, by simp only [h1, decide_false, Bool.false_eq_true, if_false, Option.bind_some], by simp; omega⟩
theorem JmB (p : T_api_Page) : ∃ b, J5F p = some b ∧ (b = true ↔ Jh9 p) := by
 refine J0R (f := fun s : Int => J1A p s) (fun s => ∃ j : Nat, s = j ∧ j ≤ 16 ∧ ∀ (i : Nat) (h : i < 16), i < j → J5V p.LSN p.Cells[i]) (fun s => (16 - s).toNat)
  (fun b => b = true ↔ Jh9 p) (fun s ⟨j, hj, h4, hc⟩ => ?_) 0 ⟨0, rfl, by omega, fun i h hh => by omega⟩
 subst hj
 by_cases hlt : j < 16
 ·have e1 : ((j : Nat) : Int) < 16 := by omega
  have e2 := J56 p.Cells j hlt
  have e3 := J2q (show j < 1000000 by omega)
  have e0 := J9v hlt
  have bad : ¬ J5V p.LSN p.Cells[j] → (false = true ↔ Jh9 p) := fun h1 => ⟨fun h => (by cases h), fun h2 => (h1 (h2 j hlt)).elim⟩
  have nxt : J5V p.LSN p.Cells[j] → ∀ (i : Nat) (h : i < 16), i < j + 1 → J5V p.LSN p.Cells[i] := by
   intro hok i hi hij
   by_cases hh : i < j
   ·exact hc i hi hh
   ·obtain rfl : i = j := by omega
    exact hok
  by_cases h12 : (((p.Cells[j]).Data.length : Nat) : Int) ≤ 12
  ·by_cases hs : (p.Cells[j]).Set = true
   ·have v1 : J0o p.Cells[j] = some true := by simp only [J0o, h12, decide_true, if_true, hs]
    by_cases hl : p.LSN = 0
    ·right
     exact ⟨false, by simp only [J1A, e1, decide_true, if_true, e0, e2, Option.bind_some, v1, hs, hl, beq_self_eq_true], bad fun h => h.2.2 hs hl⟩
    ·left
     have e4 : (p.LSN == 0) = false := by simpa using hl
     exact ⟨((j + 1 : Nat) : Int), by simp only [J1A, e1, decide_true, if_true, e0, e2, Option.bind_some, v1, e4, Bool.false_eq_true, if_false, e3], ⟨j + 1, rfl, by omega, nxt ⟨by omega, (fun h => by rw [hs] at h; cases h), fun _ => hl⟩⟩, by omega⟩
   ·have hs' : (p.Cells[j]).Set = false := by simpa using hs
    by_cases hd : (p.Cells[j]).Data = []
    ·have v1 : J0o p.Cells[j] = some true := by simp only [J0o, h12, decide_true, if_true, hs', Bool.false_eq_true, if_false]; rw [hd]; rfl
     left
     refine ⟨((j + 1 : Nat) : Int), ?_, ⟨j + 1, rfl, by omega, nxt ⟨by omega, fun _ => hd, fun h => (hs h).elim⟩⟩, by omega⟩
     simp only [J1A, e1, decide_true, if_true, e0, e2, Option.bind_some, v1, hs', Bool.false_eq_true, if_false, e3]
     split <;> rfl
    ·right
     have e4 : ((p.Cells[j]).Data == []) = false := by simpa using hd
     have v1 : J0o p.Cells[j] = some false := by simp only [J0o, h12, decide_true, if_true, hs', Bool.false_eq_true, if_false, e4]
     exact ⟨false, by simp only [J1A, e1, decide_true, if_true, e0, e2, Option.bind_some, v1, Bool.false_eq_true, if_false], bad fun h => hd (h.2.1 hs')⟩
  ·right
   have v1 : J0o p.Cells[j] = some false := by simp only [J0o, h12, decide_false, Bool.false_eq_true, if_false]
   exact ⟨false, by simp only [J1A, e1, decide_true, if_true, e0, e2, Option.bind_some, v1, Bool.false_eq_true, if_false], bad fun h => h12 (by have := h.1; omega)⟩
 ·right
  have e1 : ¬ ((j : Nat) : Int) < 16 := by omega
  exact ⟨true, by simp only [J1A, e1, decide_false, Bool.false_eq_true, if_false, J8U, Option.map_some], fun _ i h => hc i h (by omega), fun _ => rfl⟩
theorem JrU (p : T_api_Page) : J5F p = J5v p := by
 obtain ⟨b, h1, h2⟩ := JlM p
 obtain ⟨c, h3, h4⟩ := JmB p
 rw [h1, h3]
 congr 1
 cases b <;> cases c <;> simp_all
def Jh2 (p : T_api_Page) : List UInt8 := J36 p ++ JD ((crc (J36 p) : Nat) : Int) 4 ++ JD p.LSN 8
theorem Jmb {p : T_api_Page} (hp : J6r p) : J0S p = some (Jh2 p, 0) := by
 obtain ⟨c, h1, h2⟩ := Jp2 hp
 rw [Jfb _ (by rw [JcA hp]; omega)] at h1
 injection h1 with h1
 subst h1
 have hc := JcM (J36 p)
 rw [wrap64 (by omega) (by omega)] at h2
 exact h2
theorem Jkt {p : T_api_Page} (hp : J6r p) : ∀ (m j : Nat), j + m = 16 →
  Jr (fun s : List UInt8 × Int => J3X p s.1 s.2) (JD p.LSN 8 ++ JD p.ID 4 ++ J50 (p.Cells.toList.take j), (j : Int)) = some (Jh2 p, 0) := by
 have hd : ∀ c ∈ p.Cells.toList, c.Data.length ≤ 12 := by
  intro c hc
  obtain ⟨i, hi, rfl⟩ := List.getElem_of_mem hc
  have h16 : i < 16 := by simpa using hi
  have := (hp.cells i h16).1
  simpa using this
 have hlen : ∀ j, j ≤ 16 → (JD p.LSN 8 ++ JD p.ID 4 ++ J50 (p.Cells.toList.take j)).length = 12 + 13 * j := by
  intro j hj
  have hl : (J50 (p.Cells.toList.take j)).length = 13 * j := by
   rw [Jcm fun c hc => hd c (List.mem_of_mem_take hc)]
   simp; omega
  simp only [List.length_append, Jx, hl]
 intro m
 induction m with
 | zero =>
  intro j hj
  obtain rfl : j = 16 := by omega
  refine J0E ?_
  have e1 : ¬ (((16 : Nat) : Nat) : Int) < 16 := by omega
  have e5 : p.Cells.toList.take 16 = p.Cells.toList := List.take_of_length_le (by simp)
  have h0 := hlen 16 (by omega)
  rw [e5] at h0 ⊢
  generalize hx : JD p.LSN 8 ++ JD p.ID 4 ++ J50 p.Cells.toList = x at h0
  have a0 : IntKind.wrap .i64 (244 - ((x.length : Nat) : Int)) = 24 := by rw [h0, wrap64 (by omega) (by omega)]; omega
  have a1 : J2r 24 = some (List.replicate 24 0) := JgN (n := 24) (by omega) (by omega)
  have a6 : x ++ List.replicate 24 0 = J36 p := by rw [← hx]; rfl
  have a2 : J1Z x (List.replicate 24 0) = some (J36 p) := by rw [← a6]; exact J5y (by simp; omega)
  have a3 := JgZ (J36 p) (by rw [JcA hp]; omega)
  have hc := JcM (J36 p)
  have a7 : IntKind.wrap .i64 ((crc (J36 p) : Nat) : Int) = ((crc (J36 p) : Nat) : Int) := wrap64 (by omega) (by omega)
  have a4 : J02 (J36 p) ((crc (J36 p) : Nat) : Int) 4 = some (J36 p ++ JD ((crc (J36 p) : Nat) : Int) 4) := J64 _ _ (k := 4) (by omega) (by omega) (by rw [JcA hp]; omega)
  have a5 : J02 (J36 p ++ JD ((crc (J36 p) : Nat) : Int) 4) p.LSN 8 = some (Jh2 p) := J64 _ _ (k := 8) (by omega) (by omega) (by rw [List.length_append, JcA hp, Jx]; omega)
  simp only [J3X, e1, decide_false, Bool.false_eq_true, if_false, J88, a0, a1, a2, a3, a7, a4, a5, Option.bind_some, Option.map_some]
 | succ m ih =>
  intro j hj
  have hlt : j < 16 := by omega
  have e1 : ((j : Nat) : Int) < 16 := by omega
  have h0 := hlen j (by omega)
  have e3 : p.Cells.toList.take (j + 1) = p.Cells.toList.take j ++ [p.Cells[j]] := by
   rw [List.take_add_one, List.getElem?_eq_getElem (by simpa using hlt)]
   simp
  have hcl := (hp.cells j hlt).1
  have go : ∀ n : Int, n = (if (p.Cells[j]).Set then ((p.Cells[j]).Data.length : Int) else 255) →
    J5k (JD p.LSN 8 ++ JD p.ID 4 ++ J50 (p.Cells.toList.take j)) (j : Int) n p = some (.inl (JD p.LSN 8 ++ JD p.ID 4 ++ J50 (p.Cells.toList.take (j + 1)), ((j + 1 : Nat) : Int))) := by
   intro n hn
   rw [e3, JhZ, ← List.append_assoc]
   generalize JD p.LSN 8 ++ JD p.ID 4 ++ J50 (p.Cells.toList.take j) = x at h0
   have a0 : IntKind.wrap .i64 (12 - (((p.Cells[j]).Data.length : Nat) : Int)) = ((12 - (p.Cells[j]).Data.length : Nat) : Int) := by rw [wrap64 (by omega) (by omega)]; omega
   have a1 : J2r ((12 - (p.Cells[j]).Data.length : Nat) : Int) = some (List.replicate (12 - (p.Cells[j]).Data.length) 0) := by
    rw [JgN (by omega) (by omega), Int.toNat_natCast]
   have a2 : J02 x n 1 = some (x ++ JD n 1) := J64 _ _ (k := 1) (by omega) (by omega) (by omega)
   have a3 : J1Z (p.Cells[j]).Data (List.replicate (12 - (p.Cells[j]).Data.length) 0) = some ((p.Cells[j]).Data ++ List.replicate (12 - (p.Cells[j]).Data.length) 0) := J5y (by simp; omega)
   have a4 : J1Z (x ++ JD n 1) ((p.Cells[j]).Data ++ List.replicate (12 - (p.Cells[j]).Data.length) 0) = some (x ++ Jcd p.Cells[j]) := by
    rw [J5y (by simp only [List.length_append, Jx, List.length_replicate]; omega)]
    simp only [Jcd, hn, List.append_assoc]
   simp only [J5k, a2, J9v hlt, J56 _ j hlt, a0, a1, a3, a4, Option.bind_some, J8b, J2q (show j < 1000000 by omega)]
  refine (J2b (s' := (JD p.LSN 8 ++ JD p.ID 4 ++ J50 (p.Cells.toList.take (j + 1)), ((j + 1 : Nat) : Int))) ?_).trans (ih (j + 1) (by omega))
  simp only [J3X, e1, decide_true, if_true, J9v hlt, J56 _ j hlt, Option.bind_some]
  cases hs : (p.Cells[j]).Set with
  | true => simp only [if_true]; exact go _ (by rw [hs]; rfl)
  | false => simp only [Bool.false_eq_true, if_false]; exact go _ (by rw [hs]; rfl)
theorem JrF (p : T_api_Page) : ∃ e, J5H p = some e ∧ (e = 0 ↔ J6r p) ∧ (e ≠ 0 → J0S p = some ([], e)) := by
 obtain ⟨a, h1, h2⟩ := JqK p
 obtain ⟨b, h3, h4⟩ := JlM p
 unfold J5H
 simp only [JpA, JrU, h1, h3, Option.bind_some]
 cases a with
 | false =>
  refine ⟨1, rfl, ⟨fun h => (by cases h), fun h => ?_⟩, fun _ => ?_⟩
  ·have := h2.2 ⟨h.id0, h.id1, h.lsn0, h.lsn1⟩
   cases this
  ·unfold J0S
   simp only [h1, Option.bind_some, Bool.false_eq_true, if_false]
 | true =>
  obtain ⟨i0, i1, l0, l1⟩ := h2.1 rfl
  cases b with
  | false =>
   refine ⟨22, rfl, ⟨fun h => (by cases h), fun h => ?_⟩, fun _ => ?_⟩
   ·have := h4.2 h.cells
    cases this
   ·unfold J0S
    simp only [h1, h3, Option.bind_some, if_true, Bool.false_eq_true, if_false]
  | true => exact ⟨0, rfl, ⟨fun _ => ⟨i0, i1, l0, l1, h4.1 rfl⟩, fun _ => rfl⟩, fun h => (h rfl).elim⟩
theorem JeQ (p : T_api_Page) : J38 p = J0S p := by
 obtain ⟨e, h1, h2, h3⟩ := JrF p
 unfold J38
 simp only [h1, Option.bind_some]
 by_cases he : e = 0
 ·have hp := h2.1 he
  have e0 : (e != 0) = false := by simp [he]
  have a1 : J02 [] p.LSN 8 = some (JD p.LSN 8) := J64 [] _ (k := 8) (by omega) (by omega) (by simp)
  have a2 : J02 (JD p.LSN 8) p.ID 4 = some (JD p.LSN 8 ++ JD p.ID 4) := J64 _ _ (k := 4) (by omega) (by omega) (by rw [Jx]; omega)
  simp only [e0, Bool.false_eq_true, if_false, a1, a2, Option.bind_some]
  rw [Jmb hp]
  have h := Jkt hp 16 0 (by omega)
  simp only [List.take_zero, J50, List.map_nil, List.flatten_nil, List.append_nil] at h
  exact h
 ·have e0 : (e != 0) = true := by simpa using he
  simp only [e0, if_true]
  rw [h3 he]
end Go.Am
end
section
namespace Go.Am
set_option maxRecDepth 16000
theorem Jk4 (p : T_api_Page) : ∃ r, J0S p = some r := by
 obtain ⟨r, h, _⟩ := Jju p
 exact ⟨r, h⟩
theorem JjG {s : List UInt8} {at_ k n : Int} (h : JP s at_ k = some n) : ∃ e, JO s at_ k = some (n, e) := by
 unfold JP at h
 obtain ⟨r, h1, h2⟩ := Option.bind_eq_some_iff.1 h
 injection h2 with h2
 exact ⟨r.2, by rw [h1, ← h2]⟩
theorem JuF (s : List UInt8) (hs : s.length ≤ 1000) {at_ k : Nat} (h1 : 1 ≤ k) (h8 : k ≤ 4) (ha : at_ ≤ 1000) : ∃ (n : Nat) (e : Int), JO s at_ k = some ((n : Int), e) ∧ n < 2 ^ 32 := by
 have a1 : ¬ (k : Int) < 1 := by omega
 have a2 : ¬ (k : Int) > 8 := by omega
 have a3 : ¬ (at_ : Int) < 0 := by omega
 unfold JO
 simp only [a1, a2, a3, decide_false, Bool.false_eq_true, if_false]
 by_cases c1 : (at_ : Int) > (s.length : Int)
 ·exact ⟨0, 5, by simp only [c1, decide_true, if_true]; rfl, by decide⟩
 ·have e0 : IntKind.wrap .i64 ((s.length : Int) - at_) = (s.length : Int) - at_ := wrap64 (by omega) (by omega)
  by_cases c2 : (s.length : Int) - at_ < k
  ·exact ⟨0, 5, by simp only [c1, e0, c2, decide_false, decide_true, Bool.false_eq_true, if_false, if_true]; rfl, by decide⟩
  ·simp only [c1, e0, c2, decide_false, Bool.false_eq_true, if_false]
   obtain ⟨r, hr, n, e, rfl, hn⟩ := J0R (f := fun q : Int × Int => J0a s at_ k q.1 q.2) (fun q => ∃ j x : Nat, q.2 = j ∧ q.1 = x ∧ j ≤ k ∧ x < 2 ^ (8 * j)) (fun q => (k - q.2).toNat)
    (fun r => ∃ (n : Nat) (e : Int), r = ((n : Int), e) ∧ n < 2 ^ 32) (fun q ⟨j, x, hj, hx, hjk, hxl⟩ => by
    obtain ⟨x', j'⟩ := q
    simp only at hj hx
    subst hj hx
    by_cases hlt : j < k
    ·left
     have e1 : ((j : Nat) : Int) < (k : Int) := by omega
     have e2 : IntKind.wrap .i64 ((at_ : Int) + (j : Int)) = ((at_ + j : Nat) : Int) := by rw [wrap64 (by omega) (by omega)]; omega
     have e3 : IntKind.wrap .i64 (8 * (j : Int)) = ((8 * j : Nat) : Int) := by rw [wrap64 (by omega) (by omega)]; omega
     have hlt2 : at_ + j < s.length := by omega
     have hu : (s[at_ + j]).toNat < 256 := UInt8.toNat_lt _
     have e4 : JdR .u64 (IntKind.wrap .u64 (((s[at_ + j]).toNat : Nat) : Int)) ((8 * j : Nat) : Int) = some (IntKind.wrap .u64 ((((s[at_ + j]).toNat : Nat) : Int) * 2 ^ (8 * j))) := by
      rw [J9w (by omega) (by omega)]
      simp only [JdR]
      rw [if_neg (by omega)]
      have : min (((8 * j : Nat) : Int)).toNat IntKind.u64.bits = 8 * j := by
       simp only [Int.toNat_natCast]
       exact Nat.min_eq_left (by show 8 * j ≤ 64; omega)
      rw [this]
     have e5 := JrH (x := x) (b := (s[at_ + j]).toNat) (j := j) (by omega) hxl hu
     refine ⟨(((x + (s[at_ + j]).toNat * 2 ^ (8 * j) : Nat) : Int), ((j + 1 : Nat) : Int)), ?_, ⟨j + 1, x + (s[at_ + j]).toNat * 2 ^ (8 * j), rfl, rfl, by omega, ?_⟩, by show ((k : Int) - ((j + 1 : Nat) : Int)).toNat < ((k : Int) - (j : Int)).toNat; omega⟩
     ·simp only [J0a, e1, decide_true, if_true, e2, J8t hlt2, Option.bind_some, e3, e4, e5, J2q (show j < 1000000 by omega)]
     ·have : (s[at_ + j]).toNat * 2 ^ (8 * j) + 2 ^ (8 * j) ≤ 256 * 2 ^ (8 * j) := by
       rw [← Nat.succ_mul]; exact Nat.mul_le_mul_right _ hu
      have e6 : 2 ^ (8 * (j + 1)) = 256 * 2 ^ (8 * j) := by rw [Nat.mul_add, Nat.pow_add, Nat.mul_comm]
      omega
    ·right
     obtain rfl : j = k := by omega
     have e1 : ¬ ((j : Nat) : Int) < (j : Int) := by omega
     have h32 : (2 : Nat) ^ (8 * j) ≤ 2 ^ 32 := Nat.pow_le_pow_right (by omega) (by omega)
     refine ⟨((x : Int), 0), ?_, x, 0, rfl, by omega⟩
     simp only [J0a, e1, decide_false, Bool.false_eq_true, if_false, J5O, Option.map_some]
     rw [wrap64 (by omega) (by omega)]) (0, 0) ⟨0, 0, rfl, rfl, by omega, by decide⟩
   exact ⟨n, e, hr, hn⟩
theorem bind_none {α β : Type} {o : Option α} {f : α → Option β} (h : Option.bind o f = none) (h2 : ∀ x, o = some x → f x ≠ none) : o = none := by
 cases o with
 | none => rfl
 | some x => exact (h2 x rfl h).elim
theorem JtK {s : List UInt8} (hs : s.length = 256) (p0 : T_api_Page) (q : Int × T_api_Page) (hq : ∃ j : Nat, q.1 = j ∧ j ≤ 16) {r : T_api_Page × Bool} (h : Ja2 s p0 q = some r) :
  ∃ r', Jab s p0 q = some r' ∧ (if r.2 = true then J2T s p0 r.1 = some r' else r' = (⟨0, 0, Vector.replicate 16 ⟨false, []⟩⟩, 4)) := by
 refine Jsu (f := fun q : Int × T_api_Page => J1d s p0 q.1 q.2) (g := fun q : Int × T_api_Page => J2U s p0 q.1 q.2) (fun a b => a = b ∧ ∃ j : Nat, a.1 = j ∧ j ≤ 16)
  (fun r r' => if r.2 = true then J2T s p0 r.1 = some r' else r' = (⟨0, 0, Vector.replicate 16 ⟨false, []⟩⟩, 4)) ?_ ?_ ⟨rfl, hq⟩ h
 all_goals
  rintro ⟨j', p⟩ _ r ⟨rfl, j, hj, h16⟩ e
  simp only at hj
  subst hj
 ·by_cases hlt : j < 16
  ·have e1 : ((j : Nat) : Int) < 16 := by omega
   have e2 : IntKind.wrap .i64 (12 + IntKind.wrap .i64 ((j : Int) * 13)) = ((12 + 13 * j : Nat) : Int) := by
    rw [wrap64 (n := (j : Int) * 13) (by omega) (by omega), wrap64 (by omega) (by omega)]; omega
   have hu : (s[12 + 13 * j]'(by omega)).toNat < 256 := UInt8.toNat_lt _
   have e3 : JP s ((12 + 13 * j : Nat) : Int) 1 = some (((s[12 + 13 * j]'(by omega)).toNat : Nat) : Int) := by
    simp only [JP, JiG s (by omega) (show 12 + 13 * j < s.length by omega), Option.bind_some]
   have e4 := J8t (l := s) (k := 12 + 13 * j) (by omega)
   generalize hv : (s[12 + 13 * j]'(by omega)).toNat = v at e3 e4 hu
   have e5 : IntKind.wrap .i64 ((v : Nat) : Int) = ((v : Nat) : Int) := wrap64 (by omega) (by omega)
   have e6 := J2q (show j < 1000000 by omega)
   simp only [J1d, e1, decide_true, if_true, e2, e3, Option.bind_some, e6] at e
   simp only [J2U, e1, decide_true, if_true, e2, e4, Option.bind_some, e5, J55, e6]
   split at e
   ·rename_i h255
    injection e with e; injection e with e; subst e
    exact ⟨_, by rw [if_pos h255], rfl, j + 1, rfl, by omega⟩
   ·rename_i h255
    rw [if_neg h255]
    split at e
    ·cases e
    ·rename_i h12
     rw [if_neg h12]
     simp only [Option.bind_eq_some_iff, Option.some.injEq, Sum.inl.injEq] at e
     obtain ⟨m, hm, u, hu1, y, hy, rfl⟩ := e
     exact ⟨_, by simp only [hm, hu1, hy, Option.bind_some], rfl, j + 1, rfl, by omega⟩
  ·have e1 : ¬ ((j : Nat) : Int) < 16 := by omega
   simp only [J1d, e1, decide_false, Bool.false_eq_true, if_false, J6Q, Option.map_some] at e
   cases e
 ·by_cases hlt : j < 16
  ·have e1 : ((j : Nat) : Int) < 16 := by omega
   have e2 : IntKind.wrap .i64 (12 + IntKind.wrap .i64 ((j : Int) * 13)) = ((12 + 13 * j : Nat) : Int) := by
    rw [wrap64 (n := (j : Int) * 13) (by omega) (by omega), wrap64 (by omega) (by omega)]; omega
   have hu : (s[12 + 13 * j]'(by omega)).toNat < 256 := UInt8.toNat_lt _
   have e3 : JP s ((12 + 13 * j : Nat) : Int) 1 = some (((s[12 + 13 * j]'(by omega)).toNat : Nat) : Int) := by
    simp only [JP, JiG s (by omega) (show 12 + 13 * j < s.length by omega), Option.bind_some]
   have e4 := J8t (l := s) (k := 12 + 13 * j) (by omega)
   generalize hv : (s[12 + 13 * j]'(by omega)).toNat = v at e3 e4 hu
   have e5 : IntKind.wrap .i64 ((v : Nat) : Int) = ((v : Nat) : Int) := wrap64 (by omega) (by omega)
   simp only [J1d, e1, decide_true, if_true, e2, e3, Option.bind_some] at e
   simp only [J2U, e1, decide_true, if_true, e2, e4, Option.bind_some, e5, J55]
   split at e
   ·cases e
   ·rename_i h255
    rw [if_neg h255]
    split at e
    ·rename_i h12
     injection e with e; injection e with e; subst e
     exact ⟨_, by rw [if_pos h12], by simp⟩
    ·simp only [Option.bind_eq_some_iff, Option.some.injEq] at e
     obtain ⟨_, _, _, _, _, _, e⟩ := e
     cases e
  ·have e1 : ¬ ((j : Nat) : Int) < 16 := by omega
   simp only [J1d, e1, decide_false, Bool.false_eq_true, if_false, J6Q, Option.map_some, Option.some.injEq, Sum.inr.injEq] at e
   subst e
   have ht : ∃ r', J2T s p0 p = some r' := by
    unfold J2T
    rw [JeQ]
    obtain ⟨x, hx⟩ := Jk4 p
    rw [hx, Option.bind_some]
    split
    ·exact ⟨_, rfl⟩
    ·split <;> exact ⟨_, rfl⟩
   obtain ⟨r', hr'⟩ := ht
   exact ⟨r', by simp only [J2U, e1, decide_false, Bool.false_eq_true, if_false, hr', Option.map_some], by simpa using hr'⟩
theorem JqX (s : List UInt8) : J59 s = J1h s := by
 unfold J59 J1h
 by_cases hs : s.length = 256
 ·have e0 : (((s.length : Nat) : Int) != 256) = false := by rw [hs]; rfl
  have e3 : J0Z s none (some 244) = some (s.take 244) := JcW s (b := 244) (by omega)
  have e1 : J0Z s none (some 8) = some (s.take 8) := JcW s (b := 8) (by omega)
  have e2 : J0Z s (some 248) none = some (s.drop 248) := JcC s (a := 248) (by omega)
  have g1 : J1o s 244 4 = JO s 244 4 := Jh1 s 244 (k := 4) (by omega) (by omega)
  have g2 : J1o s 0 8 = JO s 0 8 := Jh1 s 0 (k := 8) (by omega) (by omega)
  have g3 : J1o s 8 4 = JO s 8 4 := Jh1 s 8 (k := 4) (by omega) (by omega)
  have c1 := JgZ (s.take 244) (by simp; omega)
  have c2 := Jfb (s.take 244) (by simp; omega)
  have hc := JcM (s.take 244)
  obtain ⟨n1, x1, k1, l1⟩ := JuF s (by omega) (at_ := 244) (k := 4) (by omega) (by omega) (by omega)
  have k1' : JO s 244 4 = some ((n1 : Int), x1) := k1
  obtain ⟨n2, k2⟩ := JaZ s (by omega) (at_ := 0) (k := 8) (by omega) (by omega) (by omega)
  have k2' : JP s 0 8 = some n2 := k2
  obtain ⟨x2, k2''⟩ := JjG k2'
  obtain ⟨n3, k3⟩ := JaZ s (by omega) (at_ := 8) (k := 4) (by omega) (by omega) (by omega)
  have k3' : JP s 8 4 = some n3 := k3
  obtain ⟨x3, k3''⟩ := JjG k3'
  have m1 : JP s 244 4 = some (n1 : Int) := by simp only [JP, k1', Option.bind_some]
  have w1 : IntKind.wrap .u32 (n1 : Int) = (n1 : Int) := Jar n1 l1
  have w2 : IntKind.wrap .i64 ((crc (s.take 244) : Nat) : Int) = ((crc (s.take 244) : Nat) : Int) := wrap64 (by omega) (by omega)
  obtain ⟨p, hp⟩ := JoC s hs
  simp only [e0, Bool.false_eq_true, if_false, JlQ, Jic, Option.bind_some, e1, e2, e3, g1, g2, g3, c1, c2, k1', k2'', k3'', m1, w1, w2, hp]
  split
  ·rfl
  ·split
   ·split
    ·rfl
    ·have hp' : Ja2 s ⟨0, 0, Vector.replicate 16 ⟨false, []⟩⟩ (0, ⟨n3, n2, Vector.replicate 16 ⟨false, []⟩⟩) = some p := by
      have := hp
      unfold J66 at this
      simpa only [k3', k2', Option.bind_some] using this
     obtain ⟨r', hr1, hr2⟩ := JtK hs _ _ ⟨0, rfl, by omega⟩ hp'
     rw [hr1]
     obtain ⟨x, hx⟩ := Jk4 p.1
     rw [hx, Option.bind_some]
     by_cases hb : p.2 = true
     ·rw [if_pos hb] at hr2 ⊢
      rw [← hr2]
      unfold J2T
      rw [JeQ, hx, Option.bind_some]
     ·rw [if_neg hb] at hr2 ⊢
      rw [hr2]
   ·rfl
 ·have e0 : (((s.length : Nat) : Int) != 256) = true := by simp; omega
  simp only [e0, if_true]
theorem JeV (s : List UInt8) : ∃ r, J1h s = some r := by
 by_cases hs : s.length = 256
 ·obtain ⟨r, h, _⟩ := Jr4 s hs
  exact ⟨r, h⟩
 ·have e0 : (((s.length : Nat) : Int) != 256) = true := by simp; omega
  unfold J1h
  simp only [e0, if_true]
  exact ⟨_, rfl⟩
theorem JoY {s : List UInt8} {r : T_api_Page × Int} (h : J1h s = some r) (h0 : r.2 ≠ 0) : r.1 = ⟨0, 0, Vector.replicate 16 ⟨false, []⟩⟩ := by
 unfold J1h at h
 split at h
 ·injection h with h; subst h; rfl
 ·obtain ⟨_, _, h⟩ := Option.bind_eq_some_iff.1 h
  split at h
  ·injection h with h; subst h; rfl
  ·simp only [Option.bind_eq_some_iff] at h
   obtain ⟨_, _, _, _, h⟩ := h
   split at h
   ·simp only [Option.bind_eq_some_iff] at h
    obtain ⟨_, _, _, _, _, _, h⟩ := h
    split at h
    ·injection h with h; subst h; rfl
    ·simp only [Option.bind_eq_some_iff] at h
     obtain ⟨_, _, _, _, h⟩ := h
     split at h
     ·split at h
      ·injection h with h; subst h; rfl
      ·split at h
       ·injection h with h; subst h; exact (h0 rfl).elim
       ·injection h with h; subst h; rfl
     ·injection h with h; subst h; rfl
   ·injection h with h; subst h; rfl
theorem Joj (s : List UInt8) (k : Int) : J1j s k = J0v s k := by
 unfold J1j J0v J1z
 obtain ⟨r, hr⟩ := JeV s
 simp only [JqX, hr, Option.bind_some]
 by_cases h1 : k < 0
 ·have h2 : ¬ k ≥ 0 := by omega
  simp only [h1, h2, decide_true, decide_false, if_true, Bool.false_eq_true, if_false, Option.bind_some]
 ·have h2 : k ≥ 0 := by omega
  by_cases h3 : k ≥ 64
  ·have h4 : ¬ k < 64 := by omega
   simp only [h1, h2, h3, h4, decide_true, decide_false, if_true, Bool.false_eq_true, if_false, Option.bind_some]
  ·have h4 : k < 64 := by omega
   simp only [h1, h2, h3, h4, decide_true, decide_false, if_true, Bool.false_eq_true, if_false, Option.bind_some, JvZ]
   split
   ·rfl
   ·by_cases h0 : r.2 = 0
    ·have d1 : (r.2 == 0) = true := by simpa using h0
     have d2 : (r.2 != 0) = false := by simp [h0]
     simp only [d1, d2, if_true, Bool.false_eq_true, if_false]
     rw [h0]
    ·have d1 : (r.2 == 0) = false := by simpa using h0
     have d2 : (r.2 != 0) = true := by simpa using h0
     simp only [d1, d2, if_true, Bool.false_eq_true, if_false]
     rw [← JoY hr h0]
theorem JgP (s : List UInt8) (k : Int) : ∃ r, J0v s k = some r := by
 unfold J0v J1z
 obtain ⟨r, hr⟩ := JeV s
 simp only [hr, Option.bind_some]
 by_cases h1 : k ≥ 0
 ·simp only [h1, decide_true, if_true, Option.bind_some]
  split
  ·split
   ·exact ⟨_, rfl⟩
   ·split
    ·exact ⟨_, rfl⟩
    ·split <;> exact ⟨_, rfl⟩
  ·exact ⟨_, rfl⟩
 ·simp only [h1, decide_false, Bool.false_eq_true, if_false, Option.bind_some]
  exact ⟨_, rfl⟩
end Go.Am
end
section
namespace Go.Am
set_option maxRecDepth 16000
theorem Jug {b : T_pagemenddraw_Codes} (hb : J0r b) {n : Int} (h1 : 1 ≤ n) (h2 : n ≤ 65536) : ∃ r b', Jp b n = some (r, b') ∧ J0r b' ∧ 0 ≤ r ∧ r < n := by
 by_cases hn : n ≤ 256
 ·exact J39 hb h1 hn
 ·by_cases hc : b.at_ ≥ (b.l_.length : Int)
  ·refine ⟨0, b, ?_, hb, by omega, by omega⟩
   show J0t (11 + 1) b n = _
   simp only [J0t, J2G, hc, decide_true, if_true]
  ·obtain ⟨ha, hb1, hl, hx⟩ := hb
   obtain ⟨k, hk⟩ : ∃ k : Nat, b.at_ = (k : Int) := ⟨b.at_.toNat, by omega⟩
   have hk2 : k < b.l_.length := by omega
   have hy := hx _ (List.getElem_mem hk2)
   have e1 : ¬ n < 1 := by omega
   have e2 : n > 256 := by omega
   have e3 : idx b.l_ b.at_ = some b.l_[k] := by rw [hk, J3y, List.getElem?_eq_getElem hk2]
   have hb' : J0r ⟨b.l_, b.at_ + 1⟩ := ⟨by show 0 ≤ b.at_ + 1; omega, by show b.at_ + 1 ≤ (b.l_.length : Int); omega, hl, hx⟩
   obtain ⟨r, b2, e4, hb2, hr0, hr1⟩ := Jki hb' (n := 256) (by omega) (by omega) 10
   have e5 : IntKind.wrap .i64 (b.at_ + 1) = b.at_ + 1 := wrap64 (by omega) (by omega)
   have e6 : IntKind.wrap .i64 (IntKind.wrap .i64 (256 * IntKind.wrap .i64 b.l_[k]) + r) = 256 * b.l_[k] + r := by
    rw [wrap64 (n := b.l_[k]) (by omega) (by omega), wrap64 (n := 256 * b.l_[k]) (by omega) (by omega), wrap64 (by omega) (by omega)]
   have e7 : ¬ n = 0 := by omega
   refine ⟨(256 * b.l_[k] + r).tmod n, b2, ?_, hb2, Int.tmod_nonneg _ (by omega), Int.tmod_lt_of_pos _ (by omega)⟩
   show J0t (11 + 1) b n = _
   have e8 : J0t 11 ⟨b.l_, b.at_ + 1⟩ 256 = some (r, b2) := e4
   rw [show J0t (11 + 1) = J2G (J0t 11) from rfl]
   simp only [J2G, hc, e1, e2, e3, e5, e6, e8, decide_true, decide_false, if_true, Bool.false_eq_true, if_false, Option.bind_some, Jl0, e7]
theorem JvV {l : List Int} (h : List.length l ≤ maxLen ∧ ∀ x ∈ l, 0 ≤ x ∧ x ≤ 255) {n : Nat} (hn : n ≤ 1000) : ∃ b, J81 l (n : Int) = some b ∧ J0r b := Jwf h.2 hn
theorem Jsh {p : T_api_Page} (hp : J6r p) : (Jh2 p).length = 256 := by
 simp [Jh2, JcA hp, Jx]
theorem JsK {b : T_pagemenddraw_Codes} (hb : J0r b) : ∃ t b', J2R b = some (t, b') ∧ J0r b' ∧ t.length = 256 := by
 obtain ⟨r, b1, e1, hb1, _, _⟩ := J39 hb (n := 256) (by omega) (by omega)
 obtain ⟨z, b2, e2, hb2, z0, z1⟩ := J39 hb1 (n := 256) (by omega) (by omega)
 obtain ⟨y, b3, e3, hb3, _, _⟩ := J39 hb2 (n := 256) (by omega) (by omega)
 obtain ⟨k, rfl⟩ : ∃ k : Nat, z = (k : Int) := ⟨z.toNat, by omega⟩
 have e0 : mkS 1 256 256 (0 : Int) = some (List.replicate 256 0) := by
  unfold mkS
  rw [if_pos (by omega)]
  rfl
 unfold J2R
 simp only [e0, e1, Option.bind_some]
 have hL : (List.replicate 256 (0 : Int)).length = 256 := List.length_replicate
 generalize List.replicate 256 (0 : Int) = L at hL
 obtain ⟨o, ho, hq⟩ := J0R (f := fun s : Int × List Int => J2c (IntKind.wrap .u8 r) b1 s.1 s.2) (fun s => (∃ j : Nat, s.1 = j ∧ j ≤ 256) ∧ s.2.length = 256) (fun s => (256 - s.1).toNat) (fun r => J0r r.2 ∧ r.1.length = 256) (fun s ⟨⟨j, hj, h4⟩, hl⟩ => by
  obtain ⟨j', l⟩ := s
  simp only at hj hl
  subst hj
  by_cases hlt : j < 256
  ·left
   have c1 : ((j : Nat) : Int) < (l.length : Int) := by omega
   have c2 : idx l (j : Int) = some (l[j]'(by omega)) := by rw [J3y, List.getElem?_eq_getElem]
   exact ⟨⟨((j + 1 : Nat) : Int), l.set j (IntKind.wrap .u8 r)⟩, by simp only [J2c, c1, decide_true, if_true, c2, Option.bind_some, Int.toNat_natCast, J2q (show j < 1000000 by omega)], ⟨⟨j + 1, rfl, by omega⟩, by show (l.set j _).length = 256; simp [hl]⟩, by show ((256 : Int) - ((j + 1 : Nat) : Int)).toNat < ((256 : Int) - (j : Int)).toNat; omega⟩
  ·right
   have c1 : ¬ ((j : Nat) : Int) < (l.length : Int) := by omega
   have c2 : idx l (k : Int) = some (l[k]'(by omega)) := by rw [J3y, List.getElem?_eq_getElem]
   exact ⟨(toStr (l.set k (IntKind.wrap .u8 y)), b3), by simp only [J2c, c1, decide_false, Bool.false_eq_true, if_false, J60, e2, e3, c2, Option.bind_some, Option.map_some, Int.toNat_natCast], hb3, by simp [toStr, hl]⟩) (0, L) ⟨⟨0, rfl, by omega⟩, hL⟩
 exact ⟨o.1, o.2, ho, hq.1, hq.2⟩
end Go.Am
end
section
namespace Go.Am
set_option maxRecDepth 16000
def hb (c : Nat) : Nat := if c < 2147483648 then 2 * c else 2 * (c ^^^ P32) + 1
def hN : Nat → Nat → Nat
 | 0, c => c
 | j + 1, c => hN j (hb c)
end Go.Am
end
section
namespace Go.Am
set_option maxRecDepth 16000
theorem Jsq {α ρ : Type} {f : Int → Option (Int ⊕ ρ)} {l : List α} (p : α → Bool) (hit : Nat → ρ) (out : ρ) (hl : l.length < 1000000)
  (h1 : ∀ (k : Nat) (h : k < l.length), f (k : Int) = some (if p l[k] = true then .inr (hit k) else .inl ((k + 1 : Nat) : Int))) (h2 : f (l.length : Int) = some (.inr out)) :
  Jr f 0 = some (match l.findIdx? p with
   | some k => hit k
   | none => out) := by
 have key : ∀ (n k : Nat), k + n = l.length → Jr f (k : Int) = some (match (l.drop k).findIdx? p with
   | some j => hit (k + j)
   | none => out) := by
  intro n
  induction n with
  | zero =>
   intro k hk
   obtain rfl : k = l.length := by omega
   rw [J0E h2]
   simp
  | succ n ih =>
   intro k hk
   have hlt : k < l.length := by omega
   have e := h1 k hlt
   rw [List.drop_eq_getElem_cons hlt, List.findIdx?_cons]
   by_cases hp : p l[k] = true
   ·rw [if_pos hp] at e
    rw [J0E e, if_pos hp]
    rfl
   ·rw [if_neg hp] at e
    rw [J2b e, ih (k + 1) (by omega), if_neg hp]
    cases (l.drop (k + 1)).findIdx? p with
    | none => rfl
    | some j => simp only [Option.map_some]; congr 2; omega
 have := key l.length 0 (by omega)
 simpa using this
theorem Jsz {α ρ : Type} {f : Int → Option (Int ⊕ ρ)} {l : List α} (q : α → Bool) (bad out : ρ) (hl : l.length < 1000000)
  (h1 : ∀ (k : Nat) (h : k < l.length), f (k : Int) = some (if q l[k] = true then .inl ((k + 1 : Nat) : Int) else .inr bad)) (h2 : f (l.length : Int) = some (.inr out)) :
  Jr f 0 = some (if l.all q = true then out else bad) := by
 have := Jsq (f := f) (l := l) (fun x => !q x) (fun _ => bad) out hl (fun k h => by
  rw [h1 k h]
  cases q l[k] <;> rfl) h2
 rw [this]
 cases h : l.findIdx? (fun x => !q x) with
 | none =>
  rw [List.findIdx?_eq_none_iff] at h
  have : l.all q = true := List.all_eq_true.2 fun x hx => by simpa using h x hx
  rw [this]; rfl
 | some k =>
  obtain ⟨hk, h3, _⟩ := List.findIdx?_eq_some_iff_getElem.1 h
  have : l.all q ≠ true := fun h4 => by
   have := List.all_eq_true.1 h4 _ (List.getElem_mem hk)
   rw [this] at h3; cases h3
  rw [if_neg this]
theorem Jrq {α σ ρ : Type} {f : σ × Int → Option ((σ × Int) ⊕ ρ)} {l : List α} (step : σ → α → σ) (fin : σ → ρ) (I : Nat → σ → Prop) (s0 : σ) (hI : I 0 s0)
  (h1 : ∀ (k : Nat) (s : σ) (h : k < l.length), I k s → f (s, (k : Int)) = some (.inl (step s l[k], ((k + 1 : Nat) : Int))) ∧ I (k + 1) (step s l[k]))
  (h2 : ∀ s, I l.length s → f (s, (l.length : Int)) = some (.inr (fin s))) : Jr f (s0, 0) = some (fin (l.foldl step s0)) ∧ I l.length (l.foldl step s0) := by
 have key : ∀ (n k : Nat) (s : σ), k + n = l.length → I k s → Jr f (s, (k : Int)) = some (fin ((l.drop k).foldl step s)) ∧ I l.length ((l.drop k).foldl step s) := by
  intro n
  induction n with
  | zero =>
   intro k s hk hs
   obtain rfl : k = l.length := by omega
   rw [J0E (h2 s hs)]
   simpa using hs
  | succ n ih =>
   intro k s hk hs
   have hlt : k < l.length := by omega
   obtain ⟨e, hs'⟩ := h1 k s hlt hs
   rw [List.drop_eq_getElem_cons hlt, List.foldl_cons, J2b e]
   exact ih (k + 1) _ (by omega) hs'
 have := key l.length 0 s0 (by omega) hI
 simpa using this
end Go.Am
end
section
namespace Go.Am
set_option maxRecDepth 16000
def Tot {ρ : Type} (o : Option ρ) (Q : ρ → Prop) : Prop := ∃ r, o = some r ∧ Q r
theorem Tot.bind {α ρ : Type} {o : Option α} {f : α → Option ρ} {Q : α → Prop} {R : ρ → Prop} (h : Tot o Q) (h2 : ∀ r, Q r → Tot (f r) R) : Tot (o.bind f) R := by
 obtain ⟨r, rfl, hq⟩ := h
 exact h2 r hq
theorem Tot.some {ρ : Type} {r : ρ} {Q : ρ → Prop} (h : Q r) : Tot (some r) Q := ⟨r, rfl, h⟩
theorem Tot.eq {α ρ : Type} {o : Option α} {f : α → Option ρ} {v : α} {R : ρ → Prop} (h : o = Option.some v) (h2 : Tot (f v) R) : Tot (o.bind f) R := by
 subst h; exact h2
theorem Tot.ite {ρ : Type} {c : Bool} {a b : Option ρ} {Q : ρ → Prop} (h1 : c = true → Tot a Q) (h2 : c = false → Tot b Q) : Tot (if c = true then a else b) Q := by
 cases c with
 | true => exact h1 rfl
 | false => exact h2 rfl
theorem Tot.both {ρ : Type} {c : Bool} {a b : Option ρ} {Q : ρ → Prop} (h1 : Tot a Q) (h2 : Tot b Q) : Tot (if c = true then a else b) Q := .ite (fun _ => h1) fun _ => h2
theorem Tot.mono {ρ : Type} {o : Option ρ} {Q R : ρ → Prop} (h : Tot o Q) (h2 : ∀ r, Q r → R r) : Tot o R := by
 obtain ⟨r, e, hq⟩ := h
 exact ⟨r, e, h2 r hq⟩
theorem Tot.map {α ρ : Type} {o : Option α} {f : α → ρ} {Q : α → Prop} {R : ρ → Prop} (h : Tot o Q) (h2 : ∀ r, Q r → R (f r)) : Tot (Option.map f o) R := by
 obtain ⟨r, rfl, hq⟩ := h
 exact ⟨f r, rfl, h2 r hq⟩
abbrev Drw {α : Type} (o : Option (α × T_pagemenddraw_Codes)) (Q : α → Prop) : Prop := Tot o fun r => J0r r.2 ∧ Q r.1
theorem JuJ {α : Type} {o : Option (α × T_pagemenddraw_Codes)} (h : ∃ x b', o = some (x, b') ∧ J0r b') : Drw o fun _ => True := by
 obtain ⟨x, b', rfl, h1⟩ := h
 exact ⟨_, rfl, h1, trivial⟩
section
variable {b : T_pagemenddraw_Codes} (hb : J0r b)
include hb
theorem J8q {n : Int} (h1 : 1 ≤ n) (h2 : n ≤ 256) : Drw (Jp b n) fun r => 0 ≤ r ∧ r < n := by
 obtain ⟨r, b', e, h3, h4, h5⟩ := J39 hb h1 h2
 exact ⟨_, e, h3, h4, h5⟩
theorem Jvx {n : Int} (h1 : 1 ≤ n) (h2 : n ≤ 65536) : Drw (Jp b n) fun r => 0 ≤ r ∧ r < n := by
 obtain ⟨r, b', e, h3, h4, h5⟩ := Jug hb h1 h2
 exact ⟨_, e, h3, h4, h5⟩
theorem Jur : Drw (J2W b) fun _ => True := JuJ (JsG hb)
theorem JoA {s : List UInt8} (hs : s.length ≤ 60000) : Drw (J2D b s) fun t => t.length ≤ s.length + 1 := by
 unfold J2D
 by_cases h0 : s.length = 0
 ·have d1 : (((s.length : Nat) : Int) == 0) = true := by rw [h0]; rfl
  rw [d1, if_pos rfl]
  exact .bind (J8q hb (by omega) (by omega)) fun r ⟨h, _⟩ => .some ⟨h, by simp [toStr]⟩
 ·have d1 : (((s.length : Nat) : Int) == 0) = false := by simpa using h0
  rw [d1, if_neg (by decide)]
  refine .bind (Jvx hb (by omega) (by omega)) fun r1 ⟨h1, q1⟩ => ?_
  obtain ⟨r, b1⟩ := r1
  simp only at h1 q1 ⊢
  obtain ⟨k, rfl⟩ : ∃ k : Nat, r = (k : Int) := ⟨r.toNat, by omega⟩
  have hk : k < s.length := by omega
  have f1 := JcW s (b := k) (by omega)
  have f2 : J0Z s (some (IntKind.wrap .i64 ((k : Int) + 1))) none = some (s.drop (k + 1)) := by
   rw [J2q (by omega)]; exact JcC s (a := k + 1) (by omega)
  have f3 : J1Z (s.take k) (s.drop (k + 1)) = some (s.take k ++ s.drop (k + 1)) := J5y (by simp only [List.length_take, List.length_drop]; omega)
  have f4 : ∀ v : Int, J1Z s (toStr [v]) = some (s ++ toStr [v]) := fun v => J5y (by simp [toStr]; omega)
  have f5 : ∀ v : Int, J1Z (s.take k) (toStr [v]) = some (s.take k ++ toStr [v]) := fun v => J5y (by simp [toStr]; omega)
  have f6 : ∀ v : Int, J1Z (s.take k ++ toStr [v]) (s.drop (k + 1)) = some (s.take k ++ toStr [v] ++ s.drop (k + 1)) := fun v => J5y (by simp [toStr]; omega)
  simp only [f1, f2, f3, f4, f5, f6, J8t hk, Option.bind_some]
  refine .bind (J8q h1 (by omega) (by omega)) fun r2 ⟨h2, q2⟩ => .both ?_ (.both ?_ ?_)
  ·exact .some ⟨h2, by simp; omega⟩
  ·exact .bind (J8q h2 (by omega) (by omega)) fun r3 ⟨h3, _⟩ => .some ⟨h3, by simp [toStr]⟩
  ·exact .bind (J8q h2 (by omega) (by omega)) fun r3 ⟨h3, _⟩ => .some ⟨h3, by simp [toStr]; omega⟩
end
end Go.Am
end
section
namespace Go.Am
set_option maxRecDepth 16000
set_option linter.unusedSimpArgs false
set_option linter.unusedVariables false
noncomputable def idn (s : List UInt8) (k : Int) : T_api_Page × Int := Classical.choose (JgP s k)
theorem Jb0 (s : List UInt8) (k : Int) : J0v s k = some (idn s k) := Classical.choose_spec (JgP s k)
theorem Jes (s : List UInt8) (k : Int) : J1j s k = some (idn s k) := by rw [Joj, Jb0]
theorem Ju7 (k : Int) : J1z k = some (decide (0 ≤ k) && decide (k < 64)) := by
 unfold J1z
 by_cases h : k ≥ 0 <;> by_cases h2 : k < 64 <;> simp [h, h2]
 all_goals omega
theorem Jmd {s : List UInt8} {k : Int} (h : (idn s k).2 = 0) : 0 ≤ k ∧ k < 64 ∧ s.length = 256 := by
 have e := Jb0 s k
 unfold J0v at e
 rw [Ju7, Option.bind_some] at e
 by_cases hk : 0 ≤ k ∧ k < 64
 ·refine ⟨hk.1, hk.2, ?_⟩
  obtain ⟨r, hr⟩ := JeV s
  rw [if_pos (by simp [hk]), hr, Option.bind_some] at e
  by_cases hl : s.length = 256
  ·exact hl
  ·unfold J1h at hr
   rw [if_pos (by simp; omega)] at hr
   injection hr with hr
   subst hr
   simp at e
   rw [← e] at h
   cases h
 ·rw [if_neg (by simp; omega)] at e
  injection e with e
  rw [← e] at h
  cases h
noncomputable def J9h (n : Int) (c : T_api_Copy) : Bool := decide (c.Page < n) && ((idn c.Data c.Page).2 == 0 && (idn c.Data c.Page).1.LSN == c.LSN)
def Jgk (l : List T_api_Copy) (k : Nat) : Bool := k == 0 || match l[k - 1]?, l[k]? with
 | some a, some b => decide (a.Page < b.Page)
 | _, _ => true
noncomputable def J9n (n : Int) (l : List T_api_Copy) : Bool := (List.range l.length).all fun k => Jgk l k && match l[k]? with
 | some c => J9h n c
 | none => true
noncomputable def J87 (x : T_api_Image) : Bool := decide (1 ≤ x.ID) && (decide (x.ID ≤ 1073741824) && (decide (1 ≤ x.Pages) && (decide (x.Pages ≤ 64) && J9n x.Pages x.Copies)))
theorem JeU {ρ : Type} {f : Int → Option (Int ⊕ ρ)} {n : Nat} (q : Nat → Bool) (bad out : ρ) (hl : n < 1000000)
  (h1 : ∀ (k : Nat), k < n → f (k : Int) = some (if q k = true then .inl ((k + 1 : Nat) : Int) else .inr bad)) (h2 : f (n : Int) = some (.inr out)) :
  Jr f 0 = some (if (List.range n).all q = true then out else bad) := by
 have := Jsz (f := f) (l := List.range n) q bad out (by simpa using hl) (fun k h => by
  simp only [List.length_range] at h
  rw [h1 k h, List.getElem_range]) (by simpa using h2)
 exact this
theorem Ji9 (a n : Int) (l : List T_api_Copy) (k : Nat) (hk : k < l.length) (hl : l.length < 1000000) :
  J3q (l.length : Int) ⟨a, n, l⟩ (k : Int) = some (if (Jgk l k && match l[k]? with
   | some c => J9h n c
   | none => true) = true then .inl ((k + 1 : Nat) : Int) else .inr false) := by
 have e1 : idx l (k : Int) = some l[k] := by rw [J3y, List.getElem?_eq_getElem hk]
 unfold J3q
 rw [if_pos (by simp; omega)]
 simp only [e1, Option.bind_some, Jb0, List.getElem?_eq_getElem hk, J9h, Jgk]
 have e3 : IntKind.wrap .i64 ((k : Int) + 1) = ((k + 1 : Nat) : Int) := by rw [wrap64 (by omega) (by omega)]; omega
 rw [e3]
 by_cases hp : l[k].Page ≥ n
 ·simp [hp, show ¬ l[k].Page < n by omega]
 ·by_cases h0 : k = 0
  ·subst h0
   simp only [hp, show l[0].Page < n by omega, decide_true, decide_false, Bool.false_eq_true, if_false, Bool.true_and]
   simp only [Int.natCast_zero, gt_iff_lt, Int.lt_irrefl, decide_false, Bool.false_eq_true, if_false, beq_self_eq_true, Bool.true_or, Bool.true_and]
   cases h5 : ((idn l[0].Data l[0].Page).2 == 0) <;> cases h6 : ((idn l[0].Data l[0].Page).1.LSN == l[0].LSN) <;> simp [bne, h5, h6]
  ·have e2 : idx l (IntKind.wrap .i64 ((k : Int) - 1)) = some l[k - 1] := by
    rw [wrap64 (by omega) (by omega), show (k : Int) - 1 = ((k - 1 : Nat) : Int) by omega, J3y, List.getElem?_eq_getElem (by omega)]
   simp only [e2, Option.bind_some, List.getElem?_eq_getElem (show k - 1 < l.length by omega)]
   simp only [hp, show l[k].Page < n by omega, decide_true, decide_false, Bool.false_eq_true, if_false, Bool.true_and, show (k : Int) > 0 by omega, if_true, show (k == 0) = false by simpa using h0, Bool.false_or]
   by_cases h7 : l[k - 1].Page ≥ l[k].Page
   ·simp [h7, show ¬ l[k - 1].Page < l[k].Page by omega]
   ·simp only [h7, show l[k - 1].Page < l[k].Page by omega, decide_true, decide_false, Bool.false_eq_true, if_false, Bool.true_and]
    cases h5 : ((idn l[k].Data l[k].Page).2 == 0) <;> cases h6 : ((idn l[k].Data l[k].Page).1.LSN == l[k].LSN) <;> simp [bne, h5, h6]
theorem Jas {n : Int} {c : T_api_Copy} (h : J9h n c = true) : 0 ≤ c.Page ∧ c.Page < 64 ∧ c.Page < n ∧ (idn c.Data c.Page).2 = 0 ∧ (idn c.Data c.Page).1.LSN = c.LSN := by
 simp only [J9h, Bool.and_eq_true, decide_eq_true_eq, beq_iff_eq] at h
 have := Jmd h.2.1
 exact ⟨this.1, this.2.1, h.1, h.2.1, h.2.2⟩
theorem JnG (a n : Int) (l : List T_api_Copy) (k : Nat) (hk : k < l.length) (hl : l.length < 1000000) :
  J3m ⟨a, n, l⟩ (k : Int) = some (if (Jgk l k && match l[k]? with
   | some c => J9h n c
   | none => true) = true then .inl ((k + 1 : Nat) : Int) else .inr false) := by
 have e1 : idx l (k : Int) = some l[k] := by rw [J3y, List.getElem?_eq_getElem hk]
 by_cases hneg : l[k].Page < 0
 ·have hf : J9h n l[k] = false := by
   cases hc : J9h n l[k] with
   | false => rfl
   | true => have := Jas hc; omega
  unfold J3m
  rw [if_pos (by simp; omega)]
  simp only [e1, Option.bind_some, List.getElem?_eq_getElem hk, hf, hneg, decide_true, if_true, Bool.and_false, Bool.false_eq_true, if_false]
 ·rw [← Ji9 a n l k hk hl]
  unfold J3m J3q
  simp only [e1, Option.bind_some, hneg, decide_false, Bool.false_eq_true, if_false, Jes, Jb0]
  rfl
theorem Jgt (b : Bool) : (if b = true then true else false) = b := by cases b <;> rfl
theorem Jj0 (a n : Int) (l : List T_api_Copy) (hl : l.length < 1000000) : J8X (l.length : Int) ⟨a, n, l⟩ 0 = some (J9n n l) := by
 unfold J8X
 rw [JeU (n := l.length) (fun k => Jgk l k && match l[k]? with
   | some c => J9h n c
   | none => true) false true hl (fun k h => Ji9 a n l k h hl) (by
  unfold J3q
  rw [if_neg (by simp)]
  rfl)]
 rw [Jgt]
 rfl
theorem Jle (a n : Int) (l : List T_api_Copy) (hl : l.length < 1000000) : J8V ⟨a, n, l⟩ 0 = some (J9n n l) := by
 unfold J8V
 rw [JeU (n := l.length) (fun k => Jgk l k && match l[k]? with
   | some c => J9h n c
   | none => true) false true hl (fun k h => JnG a n l k h hl) (by
  unfold J3m
  rw [if_neg (by simp)]
  rfl)]
 rw [Jgt]
 rfl
theorem Jby {n : Int} {l : List T_api_Copy} : J9n n l = true ↔ (∀ c ∈ l, J9h n c = true) ∧ ∀ (k : Nat) (h : k + 1 < l.length), l[k].Page < l[k + 1].Page := by
 unfold J9n
 simp only [List.all_eq_true, List.mem_range, Bool.and_eq_true]
 constructor
 ·intro h
  refine ⟨fun c hc => ?_, fun k hk => ?_⟩
  ·obtain ⟨k, hk⟩ := List.getElem?_of_mem hc
   have hlt : k < l.length := by
    rcases Nat.lt_or_ge k l.length with h' | h'
    ·exact h'
    ·simp [List.getElem?_eq_none h'] at hk
   have := (h k hlt).2
   rw [hk] at this
   exact this
  ·have := (h (k + 1) hk).1
   simp only [Jgk, Nat.add_sub_cancel, List.getElem?_eq_getElem hk, List.getElem?_eq_getElem (show k < l.length by omega)] at this
   simpa using this
 ·rintro ⟨h1, h2⟩ k hk
  refine ⟨?_, ?_⟩
  ·unfold Jgk
   by_cases h0 : k = 0
   ·simp [h0]
   ·obtain ⟨j, rfl⟩ : ∃ j, k = j + 1 := ⟨k - 1, by omega⟩
    simp only [Nat.add_sub_cancel, List.getElem?_eq_getElem hk, List.getElem?_eq_getElem (show j < l.length by omega)]
    simpa using h2 j hk
  ·rw [List.getElem?_eq_getElem hk]
   exact h1 _ (List.getElem_mem hk)
theorem JrZ {n : Int} {l : List T_api_Copy} (h : J9n n l = true) : ∀ (k : Nat) (hk : k < l.length), (k : Int) ≤ l[k].Page := by
 obtain ⟨h1, h2⟩ := Jby.1 h
 intro k
 induction k with
 | zero => intro hk; have := (Jas (h1 _ (List.getElem_mem hk))).1; omega
 | succ k ih => intro hk; have := ih (by omega); have := h2 k hk; omega
theorem Jkk {n : Int} {l : List T_api_Copy} (h : J9n n l = true) (hn : 0 ≤ n) : (l.length : Int) ≤ n := by
 by_cases h0 : l.length = 0
 ·omega
 ·have h1 := JrZ h (l.length - 1) (by omega)
  have h2 := (Jas ((Jby.1 h).1 _ (List.getElem_mem (show l.length - 1 < l.length by omega)))).2.2.1
  omega
theorem J4d (x : T_api_Image) (hl : x.Copies.length < 1000000) : J1g x = some (J87 x) := by
 obtain ⟨a, n, l⟩ := x
 unfold J1g J87
 dsimp only at hl ⊢
 by_cases h1 : a < 1
 ·simp [h1, show ¬ 1 ≤ a by omega]
 by_cases h2 : a > 1073741824
 ·simp [h1, h2, show ¬ a ≤ 1073741824 by omega]
 by_cases h3 : n < 1
 ·simp [h1, h2, h3, show ¬ 1 ≤ n by omega]
 by_cases h4 : n > 64
 ·simp [h1, h2, h3, h4, show ¬ n ≤ 64 by omega]
 by_cases h5 : (l.length : Int) > n
 ·have : J9n n l = false := by
   cases hc : J9n n l with
   | false => rfl
   | true => have := Jkk hc (by omega); omega
  simp [h1, h2, h3, h4, h5, this]
 ·simp only [h1, h2, h3, h4, h5, decide_false, Bool.false_eq_true, if_false, Jj0 a n l hl]
  simp [show 1 ≤ a by omega, show a ≤ 1073741824 by omega, show 1 ≤ n by omega, show n ≤ 64 by omega]
theorem J8D (x : T_api_Image) (hl : x.Copies.length < 1000000) : J3J x = some (J87 x) := by
 obtain ⟨a, n, l⟩ := x
 unfold J3J J87
 dsimp only at hl ⊢
 by_cases h1 : a < 1
 ·simp [h1, show ¬ 1 ≤ a by omega]
 by_cases h2 : a > 1073741824
 ·simp [h1, h2, show ¬ a ≤ 1073741824 by omega]
 by_cases h3 : n < 1
 ·simp [h1, h2, h3, show ¬ 1 ≤ n by omega]
 by_cases h4 : n > 64
 ·simp [h1, h2, h3, h4, show ¬ n ≤ 64 by omega]
 ·simp only [h1, h2, h3, h4, decide_false, Bool.false_eq_true, if_false, Jle a n l hl]
  simp [show 1 ≤ a by omega, show a ≤ 1073741824 by omega, show 1 ≤ n by omega, show n ≤ 64 by omega]
structure J2O (x : T_api_Image) : Prop where
 id1 : 1 ≤ x.ID
 id2 : x.ID ≤ 1073741824
 p1 : 1 ≤ x.Pages
 p2 : x.Pages ≤ 64
 copies : ∀ c ∈ x.Copies, J9h x.Pages c = true
 asc : ∀ (k : Nat) (h : k + 1 < x.Copies.length), x.Copies[k].Page < x.Copies[k + 1].Page
theorem J52 {x : T_api_Image} : J87 x = true ↔ J2O x := by
 unfold J87
 simp only [Bool.and_eq_true, decide_eq_true_eq, Jby]
 exact ⟨fun ⟨a, b, c, d, e, f⟩ => ⟨a, b, c, d, e, f⟩, fun h => ⟨h.1, h.2, h.3, h.4, h.5, h.6⟩⟩
theorem J2O.len {x : T_api_Image} (h : J2O x) : (x.Copies.length : Int) ≤ x.Pages := Jkk (Jby.2 ⟨h.copies, h.asc⟩) (by have := h.p1; omega)
end Go.Am
end
section
namespace Go.Am
set_option maxRecDepth 16000
set_option linter.unusedSimpArgs false
set_option linter.unusedVariables false
theorem Jxi (x : Nat) : J8O .u64 (x : Int) 1 = some ((x / 2 : Nat) : Int) := by
 show some ((x : Int).fdiv 2) = _
 rw [Int.fdiv_eq_ediv_of_nonneg _ (by omega)]; simp
def Asc (l : List T_api_Copy) : Prop := ∀ (i j : Nat) (h : j < l.length) (hij : i < j), l[i].Page < l[j].Page
theorem Jws {l : List T_api_Copy} (h : ∀ (k : Nat) (h : k + 1 < l.length), l[k].Page < l[k + 1].Page) : Asc l := by
 intro i j hj hij
 induction j with
 | zero => omega
 | succ j ih =>
  rcases Nat.lt_or_ge i j with h1 | h1
  ·have := ih (by omega) h1
   have := h j hj
   omega
  ·obtain rfl : i = j := by omega
   exact h i hj
theorem J2O.ord {x : T_api_Image} (h : J2O x) : Asc x.Copies := Jws h.asc
theorem J2O.page {x : T_api_Image} (h : J2O x) {k : Nat} (hk : k < x.Copies.length) : 0 ≤ x.Copies[k].Page ∧ x.Copies[k].Page < 64 := by
 have := Jas (h.copies _ (List.getElem_mem hk)); omega
def Cut (l : List T_api_Copy) (id : Int) (k : Nat) : Prop := k ≤ l.length ∧ (∀ (j : Nat) (h : j < l.length), j < k → l[j].Page < id) ∧ ∀ (j : Nat) (h : j < l.length), k ≤ j → id ≤ l[j].Page
def J6o (l : List T_api_Copy) (id : Int) (k : Nat) : Bool := match l[k]? with
 | some c => c.Page == id
 | none => false
theorem JlZ (c : T_api_Copy) {id : Int} (h : 0 ≤ c.Page ∧ c.Page < 64) (h0 : 0 ≤ id) (h1 : id < 64) : J89 c id = some (c.Page - id) := by
 unfold J89; rw [wrap64 (by omega) (by omega)]
theorem Jm2 {x : T_api_Image} (hx : J2O x) {id : Int} (h0 : 0 ≤ id) (h1 : id < 64) : ∃ k, Cut x.Copies id k ∧ JbZ x id = some ((k : Int), J6o x.Copies id k) := by
 obtain ⟨a, n, l⟩ := x
 have hl : l.length ≤ 64 := by have := hx.len; have := hx.p2; simp at *; omega
 have ho : Asc l := hx.ord
 have hp : ∀ (k : Nat) (hk : k < l.length), 0 ≤ l[k].Page ∧ l[k].Page < 64 := fun k hk => hx.page hk
 have key : ∃ r, J07 l id (l.length : Int) (0, (l.length : Int)) = some r ∧ ∃ k, Cut l id k ∧ r = ((k : Int), J6o l id k) := by
  unfold J07
  refine J0R (fun s : Int × Int => ∃ i j : Nat, s = ((i : Int), (j : Int)) ∧ i ≤ j ∧ j ≤ l.length ∧ (∀ (t : Nat) (h : t < l.length), t < i → l[t].Page < id) ∧ ∀ (t : Nat) (h : t < l.length), j ≤ t → id ≤ l[t].Page)
   (fun s => (s.2 - s.1).toNat) _ ?_ _ ⟨0, l.length, rfl, by omega, by omega, fun t _ ht => by omega, fun t h ht => by omega⟩
  rintro s ⟨i, j, rfl, hij, hj, hA, hB⟩
  dsimp only
  unfold J1e
  by_cases hlt : i < j
  ·left
   have e1 : J8O .u64 (IntKind.wrap .u64 (IntKind.wrap .i64 ((i : Int) + (j : Int)))) 1 = some (((i + j) / 2 : Nat) : Int) := by
    rw [wrap64 (by omega) (by omega), J9w (by omega) (by omega), show (i : Int) + (j : Int) = ((i + j : Nat) : Int) by omega, Jxi]
   have hm : (i + j) / 2 < l.length := by omega
   have e2 : IntKind.wrap .i64 (((i + j) / 2 : Nat) : Int) = (((i + j) / 2 : Nat) : Int) := wrap64 (by omega) (by omega)
   rw [if_pos (by simp; omega), e1, Option.bind_some, e2, J3y, List.getElem?_eq_getElem hm, Option.bind_some, JlZ _ (hp _ hm) h0 h1, Option.bind_some]
   by_cases hc : l[(i + j) / 2].Page < id
   ·rw [if_pos (by simp; omega)]
    refine ⟨_, rfl, ⟨(i + j) / 2 + 1, j, ?_, by omega, hj, fun t ht h2 => ?_, hB⟩, ?_⟩
    ·rw [wrap64 (by omega) (by omega)]; congr 1
    ·rcases Nat.lt_or_ge t ((i + j) / 2) with h3 | h3
     ·have := ho t _ hm h3; omega
     ·obtain rfl : t = (i + j) / 2 := by omega
      exact hc
    ·dsimp only; rw [wrap64 (by omega) (by omega)]; omega
   ·rw [if_neg (by simp; omega)]
    refine ⟨_, rfl, ⟨i, (i + j) / 2, rfl, by omega, by omega, hA, fun t ht h2 => ?_⟩, ?_⟩
    ·rcases Nat.eq_or_lt_of_le h2 with h3 | h3
     ·subst h3; omega
     ·have := ho _ t ht h3; omega
    ·dsimp only; omega
  ·right
   obtain rfl : i = j := by omega
   rw [if_neg (by simp)]
   refine ⟨((i : Int), J6o l id i), ?_, i, ⟨hj, hA, hB⟩, rfl⟩
   unfold J1f
   by_cases hi : i < l.length
   ·rw [if_pos (by simp; omega), J3y, List.getElem?_eq_getElem hi, Option.bind_some, JlZ _ (hp _ hi) h0 h1, Option.bind_some]
    simp only [J6o, List.getElem?_eq_getElem hi, Option.map_some]
    congr 3
    rw [Bool.eq_iff_iff]; simp; omega
   ·rw [if_neg (by simp; omega)]
    simp [J6o, List.getElem?_eq_none (show l.length ≤ i by omega)]
 obtain ⟨r, hr, k, hk, rfl⟩ := key
 refine ⟨k, hk, ?_⟩
 unfold JbZ J1l
 dsimp only
 rw [hr]
 rfl
def Jc3 (l : List T_api_Copy) (c : T_api_Copy) (k : Nat) : List T_api_Copy := l.take k ++ c :: l.drop (if J6o l c.Page k then k + 1 else k)
theorem Jny {l : List T_api_Copy} (h : l.length ≤ 1000) : J3Y l = some l := by
 unfold J3Y; rw [if_pos (by omega)]
theorem JlG {x : T_api_Image} (hx : J2O x) {id : Int} {s : List UInt8} (h0 : 0 ≤ id) (h1 : id < x.Pages) (hs : (idn s id).2 = 0) {k : Nat} (hk : Cut x.Copies id k) :
  J3A x id s = some (⟨x.ID, x.Pages, Jc3 x.Copies ⟨id, (idn s id).1.LSN, s⟩ k⟩, 0) := by
 have hl : x.Copies.length ≤ 64 := by have := hx.len; have := hx.p2; omega
 have h64 : id < 64 := by have := hx.p2; omega
 unfold J3A
 rw [J4d x (by omega), J52.2 hx, Option.bind_some, if_pos rfl, if_neg (by simp; omega), if_neg (by simp; omega), Jb0, Option.bind_some, if_neg (by simp [hs])]
 obtain ⟨k', hk', e⟩ := Jm2 hx h0 h64
 have hkk : k' = k := by
  rcases Nat.lt_trichotomy k' k with h | h | h
  ·have a := hk.2.1 k' (by have := hk.1; omega) h
   have b := hk'.2.2 k' (by have := hk.1; omega) (Nat.le_refl _)
   omega
  ·exact h
  ·have a := hk'.2.1 k (by have := hk'.1; omega) h
   have b := hk.2.2 k (by have := hk'.1; omega) (Nat.le_refl _)
   omega
 subst hkk
 rw [e, Option.bind_some, Jny (by omega), Option.bind_some]
 dsimp only
 unfold Jc3
 by_cases ht : J6o x.Copies id k' = true
 ·have hlt : k' < x.Copies.length := by
   rcases Nat.lt_or_ge k' x.Copies.length with h | h
   ·exact h
   ·simp [J6o, List.getElem?_eq_none h] at ht
  rw [if_pos ht]
  dsimp only
  rw [if_pos ht]
  unfold Ja0
  rw [J3y, List.getElem?_eq_getElem hlt, Option.bind_some, Option.bind_some, Int.toNat_natCast, List.set_eq_take_append_cons_drop, if_pos hlt]
 ·rw [if_neg ht]
  dsimp only
  rw [if_neg ht]
  have hk2 := hk'.1
  have e2 : J3C x.Copies (k' : Int) [⟨0, 0, []⟩] = some (x.Copies.take k' ++ ⟨0, 0, []⟩ :: x.Copies.drop k') := by
   unfold J3C JqS
   dsimp only
   rw [if_pos ⟨by omega, by omega, by simp [J5n]; omega⟩, Int.toNat_natCast]
  have e3 : (x.Copies.take k').length = k' := by simp; omega
  rw [e2, Option.bind_some]
  unfold Ja0
  have e4 : idx (x.Copies.take k' ++ (⟨0, 0, []⟩ : T_api_Copy) :: x.Copies.drop k') (k' : Int) = some ⟨0, 0, []⟩ := by
   rw [J3y, List.getElem?_append_right (by omega), e3, Nat.sub_self]; rfl
  rw [e4, Option.bind_some, Option.bind_some, Int.toNat_natCast, List.set_append_right _ _ (by omega), e3, Nat.sub_self]
  rfl
end Go.Am
end
section
namespace Go.Am
set_option maxRecDepth 16000
set_option linter.unusedSimpArgs false
set_option linter.unusedVariables false
theorem JbD {l : List T_api_Copy} {id : Int} {k : Nat} : J6o l id k = true ↔ ∃ h : k < l.length, l[k].Page = id := by
 unfold J6o
 rcases Nat.lt_or_ge k l.length with h | h
 ·simp [List.getElem?_eq_getElem h, h]
 ·simp [List.getElem?_eq_none h]; omega
theorem Jbm {l : List T_api_Copy} {c : T_api_Copy} (h : l.length ≤ 1000) : Jbf 32 l [c] = some (l ++ [c]) := by
 have e : J5n (l.length + [c].length) 32 = true := by
  simp only [J5n, List.length_cons, List.length_nil]
  simp; omega
 unfold Jbf
 rw [if_pos e]
theorem Jlx {α : Type} {l : List α} {k' j : Nat} (h : j < l.length) (h2 : k' ≤ j) : (l.drop k').take (j - k') ++ [l[j]] = (l.drop k').take (j + 1 - k') := by
 rw [show j + 1 - k' = (j - k') + 1 by omega, List.take_add_one, List.getElem?_drop, show k' + (j - k') = j by omega, List.getElem?_eq_getElem h]
 rfl
theorem Jq3 {x : T_api_Image} (hx : J2O x) {id : Int} {s : List UInt8} (h0 : 0 ≤ id) (h1 : id < x.Pages) (hs : (idn s id).2 = 0) {k : Nat} (hk : Cut x.Copies id k) :
  J2y x id s = some (⟨x.ID, x.Pages, Jc3 x.Copies ⟨id, (idn s id).1.LSN, s⟩ k⟩, 0) := by
 have hl : x.Copies.length ≤ 64 := by have := hx.len; have := hx.p2; omega
 have h64 : id < 64 := by have := hx.p2; omega
 have ho := hx.ord
 unfold J2y
 rw [J8D x (by omega), J52.2 hx, Option.bind_some, if_pos rfl, if_neg (by simp; omega), if_neg (by simp; omega), Jes, Option.bind_some, if_neg (by simp [hs])]
 generalize hc : (⟨id, (idn s id).1.LSN, s⟩ : T_api_Copy) = c
 have hcp : c.Page = id := by rw [← hc]
 obtain ⟨a, n, l⟩ := x
 dsimp only at *
 obtain ⟨k', hk'⟩ : ∃ k', k' = if J6o l id k then k + 1 else k := ⟨_, rfl⟩
 have hkk : k ≤ k' ∧ k' ≤ k + 1 := by rw [hk']; split <;> omega
 have hput : Jc3 l c k = l.take k ++ c :: l.drop k' := by unfold Jc3; rw [hcp, hk']
 obtain ⟨r, hr, rfl⟩ : ∃ r, J9Q id ⟨a, n, l⟩ [] 0 0 c a n (false, 0, []) = some r ∧ r = (⟨a, n, Jc3 l c k⟩, 0) := by
  unfold J9Q
  refine J0R (fun s : Bool × Int × List T_api_Copy => ∃ j : Nat, j ≤ l.length ∧ s = (decide (k < j), (j : Int), if k < j then l.take k ++ c :: (l.drop k').take (j - k') else l.take j)) (fun s => (l.length - s.2.1).toNat) _ ?_ _ ⟨0, by omega, by simp⟩
  rintro _ ⟨j, hj, rfl⟩
  dsimp only
  unfold J8i
  dsimp only
  rcases Nat.lt_or_ge j l.length with hlt | hge
  ·left
   have e3 : IntKind.wrap .i64 ((j : Int) + 1) = ((j + 1 : Nat) : Int) := by rw [wrap64 (by omega) (by omega)]; omega
   have ei : idx l (j : Int) = some l[j] := by rw [J3y, List.getElem?_eq_getElem hlt]
   rw [if_pos (by simp; omega)]
   rcases Nat.lt_trichotomy j k with h | h | h
   ·
    have hpg := hk.2.1 j hlt h
    refine ⟨(decide (k < j + 1), ((j + 1 : Nat) : Int), if k < j + 1 then l.take k ++ c :: (l.drop k').take (j + 1 - k') else l.take (j + 1)), ?_, ⟨j + 1, by omega, rfl⟩, by dsimp only; omega⟩
    rw [show decide (k < j) = false by simp; omega, if_neg (show ¬ k < j by omega), show decide (k < j + 1) = false by simp; omega, if_neg (show ¬ k < j + 1 by omega)]
    simp only [Bool.false_eq_true, if_false, ei, Option.bind_some]
    rw [if_neg (by simp; omega)]
    unfold J4S
    simp only [ei, Option.bind_some]
    rw [if_pos (by simp; omega), Jbm (by simp; omega), Option.bind_some]
    unfold J4H
    rw [e3, List.take_add_one, List.getElem?_eq_getElem hlt]
    rfl
   ·
    subst h
    have hpg := hk.2.2 j hlt (Nat.le_refl _)
    refine ⟨(decide (j < j + 1), ((j + 1 : Nat) : Int), if j < j + 1 then l.take j ++ c :: (l.drop k').take (j + 1 - k') else l.take (j + 1)), ?_, ⟨j + 1, by omega, rfl⟩, by dsimp only; omega⟩
    rw [show decide (j < j) = false by simp, if_neg (show ¬ j < j by omega), show decide (j < j + 1) = true by simp, if_pos (show j < j + 1 by omega)]
    simp only [Bool.false_eq_true, if_false, ei, Option.bind_some]
    rw [if_pos (by simp; omega), Jbm (by simp; omega), Option.bind_some]
    unfold J4S
    simp only [ei, Option.bind_some]
    by_cases hp : l[j].Page = id
    ·have : k' = j + 1 := by rw [hk', if_pos (JbD.2 ⟨hlt, hp⟩)]
     subst this
     rw [if_neg (by simp [hp])]
     unfold J4H
     rw [e3, Nat.sub_self]
     rfl
    ·have : k' = j := by rw [hk', if_neg (fun h => hp (JbD.1 h).2)]
     subst this
     rw [if_pos (by simp [hp]), Jbm (by simp; omega), Option.bind_some]
     unfold J4H
     rw [e3, show k' + 1 - k' = 0 + 1 by omega, List.take_add_one, List.getElem?_drop, show k' + 0 = k' from rfl, List.getElem?_eq_getElem hlt]
     simp
   ·
    have hpg := hk.2.2 k (by omega) (Nat.le_refl _)
    have hpj := ho k j hlt h
    refine ⟨(decide (k < j + 1), ((j + 1 : Nat) : Int), if k < j + 1 then l.take k ++ c :: (l.drop k').take (j + 1 - k') else l.take (j + 1)), ?_, ⟨j + 1, by omega, rfl⟩, by dsimp only; omega⟩
    rw [show decide (k < j) = true by simp; omega, if_pos h, show decide (k < j + 1) = true by simp; omega, if_pos (show k < j + 1 by omega)]
    simp only [if_true]
    unfold J4S
    simp only [ei, Option.bind_some]
    rw [if_pos (by simp; omega), Jbm (by simp; omega), Option.bind_some]
    unfold J4H
    rw [e3, List.append_assoc, List.cons_append, Jlx hlt (by omega)]
  ·right
   obtain rfl : j = l.length := by omega
   rw [if_neg (by simp), hput]
   unfold J9Z
   by_cases hkl : k < l.length
   ·rw [show decide (k < l.length) = true by simpa using hkl, if_pos hkl]
    rw [if_pos rfl]
    refine ⟨_, rfl, ?_⟩
    rw [List.take_of_length_le (l := l.drop k') (by rw [List.length_drop]; omega)]
   ·have hkl2 : k = l.length := by have := hk.1; omega
    rw [show decide (k < l.length) = false by simpa using hkl, if_neg hkl]
    rw [if_neg (by decide), Jbm (by simp; omega), Option.bind_some]
    refine ⟨_, rfl, ?_⟩
    rw [hkl2, List.drop_eq_nil_of_le (by omega)]
 exact hr
theorem Jsb {x : T_api_Image} (hx : J2O x) {id : Int} (h0 : 0 ≤ id) (h1 : id < 64) : ∃ k, Cut x.Copies id k := by
 obtain ⟨k, hk, _⟩ := Jm2 hx h0 h1
 exact ⟨k, hk⟩
theorem JiR {x : T_api_Image} (hl : x.Copies.length < 1000000) (id : Int) (s : List UInt8) : J2y x id s = J3A x id s := by
 by_cases hx : J2O x
 ·by_cases hr : 0 ≤ id ∧ id < x.Pages
  ·by_cases hs : (idn s id).2 = 0
   ·obtain ⟨k, hk⟩ := Jsb hx hr.1 (by have := hx.p2; omega)
    rw [Jq3 hx hr.1 hr.2 hs hk, JlG hx hr.1 hr.2 hs hk]
   ·unfold J2y J3A
    rw [J8D x hl, J4d x hl]
    simp only [Option.bind_some, Jes, Jb0, show ((idn s id).2 != 0) = true by simpa using hs, if_true]
  ·unfold J2y J3A
   rw [J8D x hl, J4d x hl]
   simp only [Option.bind_some, Jes, Jb0]
   by_cases hneg : id < 0
   ·simp [hneg]
   ·simp [hneg, show id ≥ x.Pages by omega]
 ·unfold J2y J3A
  rw [J8D x hl, J4d x hl]
  have : J87 x = false := by
   cases h : J87 x with
   | false => rfl
   | true => exact absurd (J52.1 h) hx
  simp [this]
def Jsi : T_api_Copy := ⟨0, 0, []⟩
def Jdw (l : List T_api_Copy) (id : Int) : T_api_Copy × Bool := match l.find? (fun c => c.Page == id) with
 | some c => (c, true)
 | none => (Jsi, false)
theorem Jsv {f : Int → Option (Int ⊕ Bool)} {l l' : List T_api_Copy} (hl : l.length < 1000000) (hll : l.length = l'.length)
  (h1 : ∀ (k : Nat) (h : k < l.length), f (k : Int) = some (if (l[k] == l'[k]) = true then .inl ((k + 1 : Nat) : Int) else .inr false)) (h2 : f (l.length : Int) = some (.inr true)) : Jr f 0 = some (l == l') := by
 rw [JeU (n := l.length) (fun k => l[k]? == l'[k]?) false true hl (fun k h => by
  rw [h1 k h, List.getElem?_eq_getElem h, List.getElem?_eq_getElem (by omega)]
  simp) h2, Jgt]
 congr 1
 rw [Bool.eq_iff_iff]
 simp only [List.all_eq_true, List.mem_range, beq_iff_eq]
 constructor
 ·intro h
  apply List.ext_getElem?
  intro k
  rcases Nat.lt_or_ge k l.length with hk | hk
  ·exact h k hk
  ·rw [List.getElem?_eq_none hk, List.getElem?_eq_none (by omega)]
 ·rintro rfl k _
  rfl
theorem JtX {x y : T_api_Image} (hl : x.Copies.length < 1000000) : J6s x y = some (x == y) := by
 obtain ⟨a, n, l⟩ := x
 obtain ⟨a', n', l'⟩ := y
 unfold J6s
 dsimp only at *
 have e : ((⟨a, n, l⟩ : T_api_Image) == ⟨a', n', l'⟩) = ((a == a') && ((n == n') && (l == l'))) := by
  rw [Bool.eq_iff_iff]; simp
 rw [e]
 unfold bne
 cases h1 : (a == a')
 ·rfl
 cases h2 : (n == n')
 ·rfl
 simp only [if_true, Bool.true_and, Bool.not_true, Bool.false_eq_true, if_false]
 by_cases h3 : l.length = l'.length
 ·rw [if_neg (by simp [h3])]
  unfold Jbi
  rw [Jsv hl h3 (fun k hk => by
   unfold J6d
   rw [if_pos (by simp; omega)]
   dsimp only
   rw [J3y, J3y, List.getElem?_eq_getElem hk, List.getElem?_eq_getElem (by omega), Option.bind_some, Option.bind_some]
   have e3 : IntKind.wrap .i64 ((k : Int) + 1) = ((k + 1 : Nat) : Int) := by rw [wrap64 (by omega) (by omega)]; omega
   rw [e3]
   cases l[k] == l'[k] <;> rfl) (by
   unfold J6d
   rw [if_neg (by simp)]
   rfl)]
 ·rw [if_pos (by simp; omega)]
  have : (l == l') = false := by
   cases h : l == l' with
   | false => rfl
   | true => simp at h; exact absurd (by rw [h]) h3
  rw [this]
end Go.Am
end
section
namespace Go.Am
set_option maxRecDepth 16000
set_option linter.unusedSimpArgs false
set_option linter.unusedVariables false
theorem JoE {l : List T_api_Copy} : Asc l ↔ l.Pairwise fun a b => a.Page < b.Page := by
 rw [List.pairwise_iff_getElem]
 exact ⟨fun h i j hi hj hij => h i j hj hij, fun h i j hj hij => h i j (by omega) hj hij⟩
theorem Jqh {l : List T_api_Copy} {id : Int} {k : Nat} (hk : Cut l id k) : ∀ y ∈ l.take k, y.Page < id ∧ y ∈ l := by
 intro y hy
 obtain ⟨j, hj, rfl⟩ := List.mem_iff_getElem.1 hy
 simp only [List.length_take] at hj
 rw [List.getElem_take]
 exact ⟨hk.2.1 j (by omega) (by omega), List.getElem_mem _⟩
theorem JkB {l : List T_api_Copy} (ho : Asc l) {id : Int} {k : Nat} (hk : Cut l id k) : ∀ y ∈ l.drop (if J6o l id k then k + 1 else k), id < y.Page ∧ y ∈ l := by
 intro y hy
 obtain ⟨j, hj, rfl⟩ := List.mem_iff_getElem.1 hy
 simp only [List.length_drop] at hj
 rw [List.getElem_drop]
 refine ⟨?_, List.getElem_mem _⟩
 by_cases ht : J6o l id k = true
 ·obtain ⟨h1, h2⟩ := JbD.1 ht
  simp only [ht, if_true] at hj ⊢
  have := ho k (k + 1 + j) (by omega) (by omega)
  omega
 ·simp only [ht, Bool.false_eq_true, if_false] at hj ⊢
  have h0 := hk.2.2 (k + j) (by omega) (by omega)
  rcases Nat.eq_zero_or_pos j with hz | hz
  ·subst hz
   have : l[k].Page ≠ id := fun h => ht (JbD.2 ⟨by omega, h⟩)
   simp only [Nat.add_zero] at h0 ⊢
   omega
  ·have := ho k (k + j) (by omega) (by omega)
   have := hk.2.2 k (by omega) (Nat.le_refl _)
   omega
theorem Jen {l : List T_api_Copy} (ho : Asc l) {c : T_api_Copy} {k : Nat} (hk : Cut l c.Page k) (y : T_api_Copy) : y ∈ Jc3 l c k ↔ y = c ∨ (y ∈ l ∧ y.Page ≠ c.Page) := by
 unfold Jc3
 rw [List.mem_append, List.mem_cons]
 constructor
 ·rintro (h | h | h)
  ·have := Jqh hk y h; exact .inr ⟨this.2, by omega⟩
  ·exact .inl h
  ·have := JkB ho hk y h; exact .inr ⟨this.2, by omega⟩
 ·rintro (h | ⟨h, hne⟩)
  ·exact .inr (.inl h)
  ·obtain ⟨j, hj, rfl⟩ := List.mem_iff_getElem.1 h
   rcases Nat.lt_or_ge j k with h1 | h1
   ·exact .inl (List.mem_iff_getElem.2 ⟨j, by simp; omega, by rw [List.getElem_take]⟩)
   ·refine .inr (.inr ?_)
    have hge : (if J6o l c.Page k then k + 1 else k) ≤ j := by
     split
     ·rename_i ht
      obtain ⟨h3, h4⟩ := JbD.1 ht
      rcases Nat.eq_or_lt_of_le h1 with h5 | h5
      ·subst h5; exact absurd h4 hne
      ·exact h5
     ·exact h1
    generalize (if J6o l c.Page k then k + 1 else k) = k' at hge
    exact List.mem_iff_getElem.2 ⟨j - k', by simp; omega, by rw [List.getElem_drop]; congr 1; omega⟩
theorem Jqb {l : List T_api_Copy} (ho : Asc l) {c : T_api_Copy} {k : Nat} (hk : Cut l c.Page k) : Asc (Jc3 l c k) := by
 rw [JoE]
 have hp := JoE.1 ho
 unfold Jc3
 rw [List.pairwise_append, List.pairwise_cons]
 refine ⟨hp.sublist (List.take_sublist _ _), ⟨fun y hy => (JkB ho hk y hy).1, hp.sublist (List.drop_sublist _ _)⟩, fun a ha b hb => ?_⟩
 have h1 := (Jqh hk a ha).1
 rcases List.mem_cons.1 hb with h | h
 ·rw [h]; exact h1
 ·have := (JkB ho hk b h).1; omega
theorem Jro {x : T_api_Image} (hx : J2O x) {id : Int} {s : List UInt8} (h0 : 0 ≤ id) (h1 : id < x.Pages) (hs : (idn s id).2 = 0) {k : Nat} (hk : Cut x.Copies id k) :
  J2O ⟨x.ID, x.Pages, Jc3 x.Copies ⟨id, (idn s id).1.LSN, s⟩ k⟩ := by
 have ho := hx.ord
 refine ⟨hx.id1, hx.id2, hx.p1, hx.p2, fun y hy => ?_, fun j hj => Jqb (c := ⟨id, (idn s id).1.LSN, s⟩) ho hk j (j + 1) hj (by omega)⟩
 rcases (Jen (c := ⟨id, (idn s id).1.LSN, s⟩) ho hk y).1 hy with h | h
 ·subst h
  simp [J9h, h1, hs]
 ·exact hx.copies y h.1
theorem Jjd {l : List T_api_Copy} (ho : Asc l) {id : Int} {y : T_api_Copy} (hy : y ∈ l) (hid : y.Page = id) : Jdw l id = (y, true) := by
 unfold Jdw
 cases hf : l.find? (fun c => c.Page == id) with
 | none => have := List.find?_eq_none.1 hf y hy; simp [hid] at this
 | some c =>
  have h1 := List.find?_some hf
  have h2 := List.mem_of_find?_eq_some hf
  obtain ⟨i, hi, rfl⟩ := List.mem_iff_getElem.1 hy
  obtain ⟨j, hj, rfl⟩ := List.mem_iff_getElem.1 h2
  simp only [beq_iff_eq] at h1
  have : i = j := by
   rcases Nat.lt_trichotomy i j with h | h | h
   ·have := ho i j hj h; omega
   ·exact h
   ·have := ho j i hi h; omega
  subst this
  rfl
theorem JoK {l : List T_api_Copy} {id : Int} (h : ∀ y ∈ l, y.Page ≠ id) : Jdw l id = (Jsi, false) := by
 unfold Jdw
 rw [List.find?_eq_none.2 fun c hc => by simpa using h c hc]
theorem JsN {l : List T_api_Copy} (ho : Asc l) {c : T_api_Copy} {k : Nat} (hk : Cut l c.Page k) (id : Int) : Jdw (Jc3 l c k) id = if id = c.Page then (c, true) else Jdw l id := by
 have ho' := Jqb ho hk
 by_cases h : id = c.Page
 ·rw [if_pos h]
  exact Jjd ho' ((Jen ho hk c).2 (.inl rfl)) h.symm
 ·rw [if_neg h]
  by_cases hx : ∃ y ∈ l, y.Page = id
  ·obtain ⟨y, hy, hid⟩ := hx
   rw [Jjd ho hy hid, Jjd ho' ((Jen ho hk y).2 (.inr ⟨hy, by omega⟩)) hid]
  ·rw [JoK fun y hy => ?_, JoK fun y hy => ?_]
   ·exact fun e => hx ⟨y, hy, e⟩
   ·intro e
    rcases (Jen ho hk y).1 hy with h2 | h2
    ·subst h2; exact h e.symm
    ·exact hx ⟨y, h2.1, e⟩
theorem Jts {x : T_api_Image} (hx : J2O x) {id : Int} {s : List UInt8} (h0 : 0 ≤ id) (h1 : id < x.Pages) (hs : (idn s id).2 = 0) :
  ∃ y, J3A x id s = some (y, 0) ∧ J2y x id s = some (y, 0) ∧ J2O y ∧ y.ID = x.ID ∧ y.Pages = x.Pages ∧ (∀ z, z ∈ y.Copies ↔ z = ⟨id, (idn s id).1.LSN, s⟩ ∨ (z ∈ x.Copies ∧ z.Page ≠ id)) ∧
   ∀ i, Jdw y.Copies i = if i = id then (⟨id, (idn s id).1.LSN, s⟩, true) else Jdw x.Copies i := by
 obtain ⟨k, hk⟩ := Jsb hx h0 (by have := hx.p2; omega)
 exact ⟨_, JlG hx h0 h1 hs hk, Jq3 hx h0 h1 hs hk, Jro hx h0 h1 hs hk, rfl, rfl, fun z => Jen (c := ⟨id, (idn s id).1.LSN, s⟩) hx.ord hk z, fun i => JsN (c := ⟨id, (idn s id).1.LSN, s⟩) hx.ord hk i⟩
theorem JvR {x : T_api_Image} (hl : x.Copies.length < 1000000) (id : Int) (s : List UInt8) : ∃ r, J3A x id s = some r ∧ J2y x id s = some r ∧ (r.2 = 0 → J2O x ∧ J2O r.1 ∧ r.1.Pages = x.Pages) ∧ (r.2 ≠ 0 → r.1 = ⟨0, 0, []⟩) := by
 by_cases hx : J2O x
 ·by_cases hr : 0 ≤ id ∧ id < x.Pages
  ·by_cases hs : (idn s id).2 = 0
   ·obtain ⟨y, e1, e2, h1, _, h2, _⟩ := Jts hx hr.1 hr.2 hs
    exact ⟨_, e1, e2, fun _ => ⟨hx, h1, h2⟩, fun h => absurd rfl h⟩
   ·rw [JiR hl]
    unfold J3A
    rw [J4d x hl, J52.2 hx, Option.bind_some, if_pos rfl, if_neg (by simp; omega), if_neg (by simp; omega), Jb0, Option.bind_some, if_pos (by simpa using hs)]
    exact ⟨_, rfl, rfl, fun h => absurd h hs, fun _ => rfl⟩
  ·rw [JiR hl]
   unfold J3A
   rw [J4d x hl, J52.2 hx, Option.bind_some, if_pos rfl]
   by_cases hneg : id < 0
   ·rw [if_pos (by simpa using hneg)]
    exact ⟨_, rfl, rfl, fun h => by simp at h, fun _ => rfl⟩
   ·rw [if_neg (by simpa using hneg), if_pos (by simp; omega)]
    exact ⟨_, rfl, rfl, fun h => by simp at h, fun _ => rfl⟩
 ·rw [JiR hl]
  unfold J3A
  have : J87 x = false := by
   cases h : J87 x with
   | false => rfl
   | true => exact absurd (J52.1 h) hx
  rw [J4d x hl, this, Option.bind_some, if_neg (by decide)]
  exact ⟨_, rfl, rfl, fun h => by simp at h, fun _ => rfl⟩
end Go.Am
end
section
namespace Go.Am
set_option maxRecDepth 16000
set_option linter.unusedSimpArgs false
set_option linter.unusedVariables false
def leV : List UInt8 → Nat
 | [] => 0
 | b :: r => b.toNat + 256 * leV r
theorem JdX : ∀ l : List UInt8, leV l < 2 ^ (8 * l.length)
 | [] => by simp [leV]
 | b :: r => by
  have := JdX r
  have hb := UInt8.toNat_lt b
  simp only [leV, List.length_cons]
  rw [show 8 * (r.length + 1) = 8 * r.length + 8 by omega, Nat.pow_add]
  omega
theorem JrL {b m k : Nat} (hb : b < 256) (h : b + 256 * m < 2 ^ 64) : JD ((b + 256 * m : Nat) : Int) (k + 1) = UInt8.ofNat b :: JD (m : Int) k := by
 have hm : m < 2 ^ 64 := by omega
 unfold JD toStr
 rw [List.range_succ_eq_map, List.map_cons, List.map_cons, List.map_map, List.map_map, List.map_map]
 congr 1
 ·rw [Jce h]
  simp only [Nat.mul_zero, Nat.pow_zero, Nat.div_one, Int.toNat_natCast]
  congr 1; omega
 ·apply List.map_congr_left
  intro i _
  simp only [Function.comp]
  rw [Jce h, Jce hm]
  congr 2
  rw [Nat.succ_eq_add_one, show 8 * (i + 1) = 8 + 8 * i by omega, Nat.pow_add, ← Nat.div_div_eq_div_mul]
  congr 3; omega
theorem Jou : ∀ {l : List UInt8}, l.length ≤ 7 → JD ((leV l : Nat) : Int) l.length = l
 | [], _ => rfl
 | b :: r, h => by
  have h1 := JdX (b :: r)
  have h2 : leV (b :: r) < 2 ^ 64 := Nat.lt_of_lt_of_le h1 (Nat.pow_le_pow_right (by decide) (by simp at h ⊢; omega))
  simp only [leV, List.length_cons] at h2 ⊢
  rw [JrL (UInt8.toNat_lt b) h2, Jou (by simp at h; omega)]
  simp
theorem Jd6 (s : List UInt8) (hs : s.length ≤ 1000000) {at_ k : Nat} (h1 : 1 ≤ k) (h4 : k ≤ 4) (ha : at_ ≤ 1000000) :
  JO s at_ k = some (if at_ + k ≤ s.length then (((leV ((s.drop at_).take k) : Nat) : Int), 0) else (0, 5)) := by
 by_cases h : at_ + k ≤ s.length
 ·rw [if_pos h]
  have hl : ((s.drop at_).take k).length = k := by simp; omega
  have e : s = s.take at_ ++ (JD ((leV ((s.drop at_).take k) : Nat) : Int) k ++ s.drop (at_ + k)) := by
   have := Jou (l := (s.drop at_).take k) (by omega)
   rw [hl] at this
   rw [this, ← List.drop_drop, List.take_append_drop, List.take_append_drop]
  have hlt := JdX ((s.drop at_).take k)
  rw [hl] at hlt
  have := JvX (s.take at_) (s.drop (at_ + k)) h1 (by omega) hlt (Nat.lt_of_lt_of_le hlt (Nat.pow_le_pow_right (by decide) (by omega))) (by rw [← e]; exact hs)
  rw [← e, List.length_take, Nat.min_eq_left (by omega)] at this
  exact this
 ·rw [if_neg h]
  have c1 : ¬ ((k : Int) < 1) := by omega
  have c2 : ¬ ((k : Int) > 8) := by omega
  have c3 : ¬ ((at_ : Int) < 0) := by omega
  unfold JO
  simp only [c1, c2, c3, decide_false, Bool.false_eq_true, if_false]
  by_cases c4 : (at_ : Int) > (s.length : Int)
  ·simp only [c4, decide_true, if_true]
  ·simp only [c4, decide_false, Bool.false_eq_true, if_false]
   rw [wrap64 (by omega) (by omega), if_pos (by simp; omega)]
theorem JdF (s : List UInt8) (hs : s.length ≤ 1000000) {at_ k : Nat} (h1 : 1 ≤ k) (h4 : k ≤ 4) (ha : at_ ≤ 1000000) :
  J1o s at_ k = some (if at_ + k ≤ s.length then (((leV ((s.drop at_).take k) : Nat) : Int), 0) else (0, 5)) := by
 rw [Jh1 s at_ (by omega) (by omega), Jd6 s hs h1 h4 ha]
def part (s : List UInt8) (at_ n : Nat) : List UInt8 := (s.drop at_).take n
def unf (s : List UInt8) (at_ : Nat) : List UInt8 × Int × Int :=
 if at_ + 4 ≤ s.length then
  if leV (part s at_ 4) ≤ 8392 then
   if at_ + leV (part s at_ 4) + 8 ≤ s.length then
    if leV (part s (at_ + 4 + leV (part s at_ 4)) 4) = crc (part s at_ (4 + leV (part s at_ 4))) then (part s (at_ + 4) (leV (part s at_ 4)), ((at_ + leV (part s at_ 4) + 8 : Nat) : Int), 0) else ([], 0, 3)
   else ([], 0, 5)
  else ([], 0, 2)
 else ([], 0, 5)
theorem JeZ (s : List UInt8) {a n : Nat} (h : a + n ≤ s.length) : J0Z s (some (a : Int)) (some ((a + n : Nat) : Int)) = some (part s a n) := by
 rw [Js1 s (by omega) h, Nat.add_sub_cancel_left]; rfl
theorem JaN (s : List UInt8) (hs : s.length ≤ 100000) {at_ : Nat} (ha : at_ ≤ s.length) : J2M s at_ = some (unf s at_) := by
 unfold J2M unf
 rw [if_neg (by simp), if_neg (by simp; omega), show (4 : Int) = ((4 : Nat) : Int) from rfl, Jd6 s (by omega) (by decide) (by decide) (by omega), Option.bind_some]
 by_cases h1 : at_ + 4 ≤ s.length
 ·rw [if_pos h1, if_pos h1]
  have hL := JdX (part s at_ 4)
  rw [show (part s at_ 4).length = 4 by unfold part; rw [List.length_take, List.length_drop]; omega] at hL
  rw [show (s.drop at_).take 4 = part s at_ 4 from rfl]
  generalize hLe : leV (part s at_ 4) = L at hL
  rw [if_neg (by simp)]
  by_cases h2 : L ≤ 8392
  ·rw [if_neg (by simp; omega), if_pos h2]
   have e1 : IntKind.wrap .i64 (IntKind.wrap .i64 ((at_ : Int) + ((4 : Nat) : Int)) + ((L : Nat) : Int)) = ((at_ + 4 + L : Nat) : Int) := by
    rw [wrap64 (n := (at_ : Int) + ((4 : Nat) : Int)) (by omega) (by omega), wrap64 (by omega) (by omega)]; omega
   have e0 : IntKind.wrap .i64 ((at_ : Int) + ((4 : Nat) : Int)) = ((at_ + 4 : Nat) : Int) := by
    rw [wrap64 (by omega) (by omega)]; omega
   rw [e1, e0, Jd6 s (by omega) (by decide) (by decide) (by omega), Option.bind_some]
   by_cases h3 : at_ + L + 8 ≤ s.length
   ·rw [if_pos (show at_ + 4 + L + 4 ≤ s.length by omega), if_pos h3, if_neg (by simp)]
    rw [show at_ + 4 + L = at_ + (4 + L) by omega, JeZ s (show at_ + (4 + L) ≤ s.length by omega), Option.bind_some, Jfb _ (by simp [part]; omega), Option.bind_some]
    have hc := JcM (part s at_ (4 + L))
    rw [wrap64 (n := ((crc (part s at_ (4 + L)) : Nat) : Int)) (by omega) (by omega)]
    rw [show (s.drop (at_ + (4 + L))).take 4 = part s (at_ + (4 + L)) 4 from rfl]
    by_cases h4 : leV (part s (at_ + (4 + L)) 4) = crc (part s at_ (4 + L))
    ·rw [if_pos h4, if_neg (by simp [h4]), ← Nat.add_assoc, JeZ s (show at_ + 4 + L ≤ s.length by omega), Option.bind_some, wrap64 (by omega) (by omega)]
     congr 3; omega
    ·rw [if_neg h4, if_pos (by simp; omega)]
   ·rw [if_neg (show ¬ at_ + 4 + L + 4 ≤ s.length by omega), if_neg h3, if_pos (by simp)]
  ·rw [if_pos (by simp; omega), if_neg h2]
 ·rw [if_neg h1, if_neg h1, if_pos (by simp)]
theorem J9X (s : List UInt8) (hs : s.length ≤ 100000) {at_ : Nat} (ha : at_ ≤ s.length) : J2N s at_ = some (unf s at_) := by
 unfold J2N unf
 rw [if_neg (by simp), if_neg (by simp; omega), show (4 : Int) = ((4 : Nat) : Int) from rfl, JdF s (by omega) (by decide) (by decide) (by omega), Option.bind_some]
 by_cases h1 : at_ + 4 ≤ s.length
 ·rw [if_pos h1, if_pos h1]
  have hL := JdX (part s at_ 4)
  rw [show (part s at_ 4).length = 4 by unfold part; rw [List.length_take, List.length_drop]; omega] at hL
  rw [show (s.drop at_).take 4 = part s at_ 4 from rfl]
  generalize hLe : leV (part s at_ 4) = L at hL
  rw [if_neg (by simp)]
  by_cases h2 : L ≤ 8392
  ·rw [if_neg (by simp; omega), if_pos h2]
   have e1 : IntKind.wrap .i64 (IntKind.wrap .i64 ((at_ : Int) + ((4 : Nat) : Int)) + ((L : Nat) : Int)) = ((at_ + 4 + L : Nat) : Int) := by
    rw [wrap64 (n := (at_ : Int) + ((4 : Nat) : Int)) (by omega) (by omega), wrap64 (by omega) (by omega)]; omega
   have e0 : IntKind.wrap .i64 ((at_ : Int) + ((4 : Nat) : Int)) = ((at_ + 4 : Nat) : Int) := by
    rw [wrap64 (by omega) (by omega)]; omega
   rw [e1, e0, wrap64 (n := (s.length : Int) - (at_ : Int)) (by omega) (by omega)]
   dsimp only
   rw [wrap64 (n := ((L : Nat) : Int) + 8) (by omega) (by omega)]
   by_cases h3 : at_ + L + 8 ≤ s.length
   ·rw [if_neg (by simp; omega), JdF s (by omega) (by decide) (by decide) (by omega), Option.bind_some, if_pos (show at_ + 4 + L + 4 ≤ s.length by omega), if_pos h3]
    rw [show at_ + 4 + L = at_ + (4 + L) by omega, JeZ s (show at_ + (4 + L) ≤ s.length by omega), Option.bind_some, JgZ _ (by simp [part]; omega), Option.bind_some]
    have hc := JcM (part s at_ (4 + L))
    rw [show (s.drop (at_ + (4 + L))).take 4 = part s (at_ + (4 + L)) 4 from rfl]
    have hv := JdX (part s (at_ + (4 + L)) 4)
    rw [show (part s (at_ + (4 + L)) 4).length = 4 by simp [part]; omega] at hv
    rw [Jar _ hv]
    by_cases h4 : leV (part s (at_ + (4 + L)) 4) = crc (part s at_ (4 + L))
    ·rw [if_pos h4, if_neg (by simp [h4]), ← Nat.add_assoc, JeZ s (show at_ + 4 + L ≤ s.length by omega), Option.bind_some, wrap64 (n := (at_ : Int) + 8) (by omega) (by omega), wrap64 (by omega) (by omega)]
     congr 3; omega
    ·rw [if_neg h4, if_pos (by simp; omega)]
   ·rw [if_pos (by simp; omega), if_neg h3]
  ·rw [if_pos (by simp; omega), if_neg h2]
 ·rw [if_neg h1, if_neg h1, if_pos (by simp)]
def Jaz (p : List UInt8) : List UInt8 := JD (p.length : Int) 4 ++ p ++ JD ((crc (JD (p.length : Int) 4 ++ p) : Nat) : Int) 4
theorem J62 (p : List UInt8) : (Jaz p).length = p.length + 8 := by simp [Jaz, Jx]; omega
theorem JjM {p : List UInt8} (h : p.length ≤ 8392) : J34 p = some (Jaz p) := by
 unfold J34
 rw [if_neg (by simp; omega), show (4 : Int) = ((4 : Nat) : Int) from rfl, Jh6 [] _ (by decide) (by decide) (by simp), Option.bind_some, List.nil_append, J5y (by simp [Jx]; omega), Option.bind_some, Jfb _ (by simp [Jx]; omega), Option.bind_some]
 have hc := JcM (JD (p.length : Int) 4 ++ p)
 rw [wrap64 (by omega) (by omega), Jh6 _ _ (by decide) (by decide) (by simp [Jx]; omega)]
 rfl
theorem JhT {p : List UInt8} (h : p.length ≤ 8392) : J4L p = some (Jaz p) := by
 unfold J4L
 rw [if_neg (by simp; omega), show (4 : Int) = ((4 : Nat) : Int) from rfl, J64 [] _ (by decide) (by decide) (by simp), Option.bind_some, List.nil_append, J5y (by simp [Jx]; omega), Option.bind_some, JgZ _ (by simp [Jx]; omega), Option.bind_some]
 have hc := JcM (JD (p.length : Int) 4 ++ p)
 rw [wrap64 (by omega) (by omega), J64 _ _ (by decide) (by decide) (by simp [Jx]; omega)]
 rfl
end Go.Am
end
section
namespace Go.Am
set_option maxRecDepth 16000
set_option linter.unusedSimpArgs false
set_option linter.unusedVariables false
def Jkp (x : T_api_Image) : List UInt8 := [80, 77, 73, 77] ++ JD x.ID 4 ++ JD x.Pages 2 ++ JD (x.Copies.length : Int) 2
def Jfc (c : T_api_Copy) : List UInt8 := JD c.Page 2 ++ c.Data
def J9z (l : List T_api_Copy) : List UInt8 := (l.map fun c => Jaz (Jfc c)).flatten
def JdT (x : T_api_Image) : List UInt8 := Jaz (Jkp x) ++ J9z x.Copies
theorem Jal (x : T_api_Image) : (Jkp x).length = 12 := by simp [Jkp, Jx]
theorem J99 {c : T_api_Copy} (h : c.Data.length = 256) : (Jfc c).length = 258 := by simp [Jfc, Jx, h]
theorem J2O.data {x : T_api_Image} (h : J2O x) : ∀ c ∈ x.Copies, c.Data.length = 256 := fun c hc => (Jmd (Jas (h.copies c hc)).2.2.2.1).2.2
theorem JhS : ∀ {l : List T_api_Copy}, (∀ c ∈ l, c.Data.length = 256) → (J9z l).length = 266 * l.length
 | [], _ => rfl
 | c :: l, h => by
  have := JhS (l := l) fun c hc => h c (by simp [hc])
  unfold J9z at this ⊢
  rw [List.map_cons, List.flatten_cons, List.length_append, this, J62, J99 (h c (by simp))]
  simp; omega
theorem JoG {x : T_api_Image} (h : J2O x) : (JdT x).length = 20 + 266 * x.Copies.length := by
 unfold JdT
 rw [List.length_append, J62, Jal, JhS h.data]
theorem JlK : ∀ (l : List T_api_Copy) (s : List UInt8), (∀ c ∈ l, c.Data.length = 256) → s.length + 300 * l.length ≤ 1000000 → JcI l s = some (s ++ J9z l)
 | [], s, _, _ => by simp [JcI, J9z]
 | c :: l, s, h, hs => by
  have hd := h c (by simp)
  simp only [List.length_cons] at hs
  unfold JcI
  have e1 : J0i [] c.Page 2 = some (JD c.Page 2) := by
   have := Jh6 [] c.Page (k := 2) (by decide) (by decide) (by simp)
   simpa using this
  rw [e1, Option.bind_some, J5y (by simp [Jx]; omega), Option.bind_some, show JD c.Page 2 ++ c.Data = Jfc c from rfl, JjM (by rw [J99 hd]; omega), Option.bind_some]
  rw [if_pos (by rw [J62, J99 hd]; omega), JlK l _ (fun c hc => h c (by simp [hc])) (by rw [List.length_append, J62, J99 hd]; omega)]
  simp [J9z]
theorem Joz (put : List UInt8 → Int → Int → Option (List UInt8)) (h : ∀ (l : List UInt8) (n : Int) (k : Nat), 1 ≤ k → k ≤ 8 → l.length ≤ 1000 → put l n (k : Int) = some (l ++ JD n k)) (x : T_api_Image) {ρ : Type} (f : List UInt8 → Option ρ) :
  (Option.bind (put [80, 77, 73, 77] x.ID 4) fun h1 => Option.bind (put h1 x.Pages 2) fun h2 => Option.bind (put h2 ((x.Copies.length : Nat) : Int) 2) fun h3 => f h3) = f (Jkp x) := by
 rw [show (4 : Int) = ((4 : Nat) : Int) from rfl, show (2 : Int) = ((2 : Nat) : Int) from rfl, h _ _ 4 (by decide) (by decide) (by simp), Option.bind_some, h _ _ 2 (by decide) (by decide) (by simp [Jx]), Option.bind_some, h _ _ 2 (by decide) (by decide) (by simp [Jx]), Option.bind_some]
 rfl
theorem JgS {x : T_api_Image} (hl : x.Copies.length ≤ 1000) : J2w x = some (if J87 x then (JdT x, 0) else ([], 43)) := by
 unfold J2w
 rw [J4d x (by omega), Option.bind_some]
 by_cases hx : J2O x
 ·rw [J52.2 hx, if_pos rfl, if_pos rfl]
  rw [Joz J0i (fun l n k h1 h8 h => Jh6 l n h1 h8 (by omega)) x, JjM (by rw [Jal]; omega), Option.bind_some, if_pos (by rw [J62, Jal]; omega),
   JlK _ _ hx.data (by rw [J62, Jal]; omega), Option.bind_some]
  rfl
 ·have : J87 x = false := by
   cases h : J87 x with
   | false => rfl
   | true => exact absurd (J52.1 h) hx
  rw [this]
  rfl
theorem Jgi {x : T_api_Image} (hl : x.Copies.length ≤ 1000) : J4a x = some (if J87 x then (JdT x, 0) else ([], 43)) := by
 unfold J4a
 rw [J8D x (by omega), Option.bind_some]
 by_cases hx : J2O x
 ·rw [J52.2 hx, if_pos rfl, if_pos rfl]
  rw [Joz J02 (fun l n k h1 h8 h => J64 l n h1 h8 (by omega)) x, JhT (by rw [Jal]; omega), Option.bind_some]
  unfold Ja5
  have h := Jrq (f := fun s : List UInt8 × Int => J3V x s.1 s.2) (l := x.Copies) (fun s c => s ++ Jaz (Jfc c)) (fun s => (s, (0 : Int))) (fun k s => s.length ≤ 1000 + 300 * k) (Jaz (Jkp x)) (by rw [J62, Jal]; omega) (fun k s hk hs => by
   have hd := hx.data _ (List.getElem_mem hk)
   have e1 : J02 [] x.Copies[k].Page 2 = some (JD x.Copies[k].Page 2) := by
    have := J64 [] x.Copies[k].Page (k := 2) (by decide) (by decide) (by simp)
    simpa using this
   refine ⟨?_, by rw [List.length_append, J62, J99 hd]; omega⟩
   dsimp only
   unfold J3V
   rw [if_pos (by simp; omega), J3y, List.getElem?_eq_getElem hk, Option.bind_some, e1, Option.bind_some, J5y (by simp [Jx]; omega), Option.bind_some, show JD x.Copies[k].Page 2 ++ x.Copies[k].Data = Jfc x.Copies[k] from rfl, JhT (by rw [J99 hd]; omega), Option.bind_some,
    J5y (by rw [J62, J99 hd]; omega), Option.bind_some, wrap64 (by omega) (by omega)]
   rfl) (fun s hs => by
   unfold J3V
   rw [if_neg (by simp)]
   rfl)
  rw [h.1]
  congr 2
  have key : ∀ (l : List T_api_Copy) (s : List UInt8), l.foldl (fun s c => s ++ Jaz (Jfc c)) s = s ++ J9z l := by
   intro l
   induction l with
   | nil => intro s; simp [J9z]
   | cons c l ih => intro s; rw [List.foldl_cons, ih]; simp [J9z]
  rw [key]
  rfl
 ·have : J87 x = false := by
   cases h : J87 x with
   | false => rfl
   | true => exact absurd (J52.1 h) hx
  rw [this]
  rfl
noncomputable def JbE (p : List UInt8) : T_api_Copy := ⟨((leV (p.take 2) : Nat) : Int), (idn (p.drop 2) ((leV (p.take 2) : Nat) : Int)).1.LSN, p.drop 2⟩
def J7s : T_api_Image := ⟨0, 0, []⟩
noncomputable def JeO (s : List UInt8) (id pages : Int) : Nat → Nat → List T_api_Copy → T_api_Image × Int
 | 0, at_, out => if at_ < s.length then (J7s, 4) else if J87 ⟨id, pages, out⟩ then (⟨id, pages, out⟩, 0) else (J7s, 43)
 | m + 1, at_, out => if (unf s at_).2.2 != 0 then (J7s, (unf s at_).2.2) else if (unf s at_).1.length = 258 then JeO s id pages m (unf s at_).2.1.toNat (out ++ [JbE (unf s at_).1]) else (J7s, 4)
theorem JnW {s : List UInt8} {at_ : Nat} (h : (unf s at_).2.2 = 0) : ∃ k : Nat, (unf s at_).2.1 = (k : Int) ∧ k = at_ + (unf s at_).1.length + 8 ∧ k ≤ s.length := by
 unfold unf at h ⊢
 split at h
 ·rename_i h1
  rw [if_pos h1]
  split at h
  ·rename_i h2
   rw [if_pos h2]
   split at h
   ·rename_i h3
    rw [if_pos h3]
    split at h
    ·rename_i h4
     rw [if_pos h4]
     refine ⟨_, rfl, ?_, by omega⟩
     have : (part s (at_ + 4) (leV (part s at_ 4))).length = leV (part s at_ 4) := by unfold part; rw [List.length_take, List.length_drop]; unfold part at h3; omega
     dsimp only
     rw [this]
    ·cases h
   ·cases h
  ·cases h
 ·cases h
theorem Jr3 {p : List UInt8} (h : p.length = 258) : J3W p = some (JbE p) := by
 unfold J3W
 have e1 : J0Z p (some 2) none = some (p.drop 2) := JcC p (a := 2) (by omega)
 have e2 : JO p 0 2 = some (((leV (p.take 2) : Nat) : Int), 0) := by
  have := Jd6 p (by omega) (at_ := 0) (k := 2) (by decide) (by decide) (by decide)
  rw [if_pos (by omega)] at this
  simpa using this
 rw [e1, Option.bind_some, e2, Option.bind_some, Jb0]
 rfl
theorem JpC (s : List UInt8) (hs : s.length ≤ 100000) (id pages : Int) (n : Nat) (hn : n ≤ 64) (l0 : List T_api_Copy) (a b : Int) : ∀ (m j at_ : Nat) (out : List T_api_Copy), j + m = n → at_ ≤ s.length → out.length = j →
  Jr (fun q : Int × Int × List T_api_Copy => J2i s (n : Int) l0 a b id pages q.1 q.2.1 q.2.2) ((at_ : Int), (j : Int), out) = some (JeO s id pages m at_ out) ∧
  Jr (fun q : Int × Int × List T_api_Copy => J2f s (n : Int) l0 a b id pages q.1 q.2.1 q.2.2) ((at_ : Int), (j : Int), out) = some (JeO s id pages m at_ out) := by
 intro m
 induction m with
 | zero =>
  intro j at_ out hj ha ho
  obtain rfl : j = n := by omega
  unfold JeO
  constructor
  ·refine J0E ?_
   dsimp only
   unfold J2i
   rw [if_neg (by simp)]
   unfold J8c
   by_cases h : at_ < s.length
   ·rw [if_pos (by simp; omega), if_pos h]; rfl
   ·rw [if_neg (by simp; omega), if_neg h, J4d _ (by dsimp only; omega), Option.bind_some]
    cases J87 ⟨id, pages, out⟩ <;> rfl
  ·refine J0E ?_
   dsimp only
   unfold J2f
   rw [if_neg (by simp)]
   unfold J8f
   by_cases h : at_ < s.length
   ·rw [if_pos (by simp; omega), if_pos h]; rfl
   ·rw [if_neg (by simp; omega), if_neg h, J8D _ (by dsimp only; omega), Option.bind_some]
    cases J87 ⟨id, pages, out⟩ <;> rfl
 | succ m ih =>
  intro j at_ out hj ha ho
  unfold JeO
  have e3 : IntKind.wrap .i64 ((j : Int) + 1) = ((j + 1 : Nat) : Int) := by rw [wrap64 (by omega) (by omega)]; omega
  by_cases h0 : (unf s at_).2.2 = 0
  ·rw [if_neg (by simp [h0])]
   by_cases hl : (unf s at_).1.length = 258
   ·rw [if_pos hl]
    obtain ⟨k, hk, _, hks⟩ := JnW h0
    have := ih (j + 1) k (out ++ [JbE (unf s at_).1]) (by omega) hks (by simp [ho])
    rw [hk, Int.toNat_natCast]
    have happ : Jbf 32 out [JbE (unf s at_).1] = some (out ++ [JbE (unf s at_).1]) := Jbm (by omega)
    constructor
    ·refine (J2b (s' := ((k : Int), ((j + 1 : Nat) : Int), out ++ [JbE (unf s at_).1])) ?_).trans this.1
     dsimp only
     unfold J2i
     rw [if_pos (by simp; omega), JaN s hs ha, Option.bind_some, if_neg (by simp [h0]), if_neg (by simp [hl]), Jr3 hl, Option.bind_some, happ, Option.bind_some, e3, hk]
    ·refine (J2b (s' := ((k : Int), ((j + 1 : Nat) : Int), out ++ [JbE (unf s at_).1])) ?_).trans this.2
     dsimp only
     unfold J2f
     have e1 : J0Z (unf s at_).1 (some 2) none = some ((unf s at_).1.drop 2) := JcC _ (a := 2) (by omega)
     have e2 : J1x (unf s at_).1 0 2 = some ((leV ((unf s at_).1.take 2) : Nat) : Int) := by
      have := JdF (unf s at_).1 (by omega) (at_ := 0) (k := 2) (by decide) (by decide) (by decide)
      rw [if_pos (by omega)] at this
      unfold J1x
      rw [show ((0 : Nat) : Int) = 0 from rfl, show ((2 : Nat) : Int) = 2 from rfl] at this
      rw [this]
      simp
     rw [if_pos (by simp; omega), J9X s hs ha, Option.bind_some, if_neg (by simp [h0]), if_neg (by simp [hl]), e2, Option.bind_some, e1, Option.bind_some, Jes, Option.bind_some, show (⟨((leV ((unf s at_).1.take 2) : Nat) : Int), (idn ((unf s at_).1.drop 2) ((leV ((unf s at_).1.take 2) : Nat) : Int)).1.LSN, (unf s at_).1.drop 2⟩ : T_api_Copy) = JbE (unf s at_).1 from rfl, happ, Option.bind_some, e3, hk]
   ·rw [if_neg hl]
    constructor
    ·refine J0E ?_
     dsimp only
     unfold J2i
     rw [if_pos (by simp; omega), JaN s hs ha, Option.bind_some, if_neg (by simp [h0]), if_pos (by simp; omega)]
     rfl
    ·refine J0E ?_
     dsimp only
     unfold J2f
     rw [if_pos (by simp; omega), J9X s hs ha, Option.bind_some, if_neg (by simp [h0]), if_pos (by simp; omega)]
     rfl
  ·rw [if_pos (by simpa using h0)]
   constructor
   ·refine J0E ?_
    dsimp only
    unfold J2i
    rw [if_pos (by simp; omega), JaN s hs ha, Option.bind_some, if_pos (by simpa using h0)]
    rfl
   ·refine J0E ?_
    dsimp only
    unfold J2f
    rw [if_pos (by simp; omega), J9X s hs ha, Option.bind_some, if_pos (by simpa using h0)]
    rfl
noncomputable def JoL (s : List UInt8) : T_api_Image × Int :=
 if (unf s 0).2.2 != 0 then (J7s, (unf s 0).2.2) else if (unf s 0).1.length = 12 then
  if (unf s 0).1.take 4 = [80, 77, 73, 77] then
   if leV (part (unf s 0).1 10 2) ≤ 64 then JeO s ((leV (part (unf s 0).1 4 4) : Nat) : Int) ((leV (part (unf s 0).1 8 2) : Nat) : Int) (leV (part (unf s 0).1 10 2)) (unf s 0).2.1.toNat [] else (J7s, 4)
  else (J7s, 4)
 else (J7s, 4)
theorem JnR {s : List UInt8} (hs : s.length ≤ 100000) : J5a s = some (JoL s) ∧ J53 s = some (JoL s) := by
 unfold J5a J53 JoL
 have hu : J2M s 0 = some (unf s 0) := JaN s hs (Nat.zero_le _)
 have hr : J2N s 0 = some (unf s 0) := J9X s hs (Nat.zero_le _)
 rw [hu, hr]
 simp only [Option.bind_some]
 by_cases h0 : (unf s 0).2.2 = 0
 ·obtain ⟨k, hk, _, hks⟩ := JnW h0
  have c0 : ((unf s 0).2.2 != 0) = false := by simp [h0]
  simp only [c0, Bool.false_eq_true, if_false]
  by_cases hl : (unf s 0).1.length = 12
  ·have c1 : ((((unf s 0).1.length : Nat) : Int) != 12) = false := by simp [hl]
   simp only [c1, Bool.false_eq_true, if_false, hl, if_true]
   have e1 : J0Z (unf s 0).1 none (some 4) = some ((unf s 0).1.take 4) := JcW _ (b := 4) (by omega)
   have e2 : J2F (unf s 0).1 [80, 77, 73, 77] = some ((unf s 0).1.take 4 == [80, 77, 73, 77]) := by
    unfold J2F J0z
    rw [if_pos (by simp; omega)]
    have : J0Z (unf s 0).1 none (some (([80, 77, 73, 77] : List UInt8).length : Int)) = some ((unf s 0).1.take 4) := e1
    rw [this]
    rfl
   rw [e1, e2]
   simp only [Option.bind_some]
   by_cases hm : (unf s 0).1.take 4 = [80, 77, 73, 77]
   ·have c2 : ((unf s 0).1.take 4 == [80, 77, 73, 77]) = true := by simp [hm]
    simp only [c2, if_true, hm]
    have g : ∀ (a k : Nat), 1 ≤ k → k ≤ 4 → a + k ≤ 12 → JO (unf s 0).1 a k = some (((leV (part (unf s 0).1 a k) : Nat) : Int), 0) ∧ J1x (unf s 0).1 a k = some ((leV (part (unf s 0).1 a k) : Nat) : Int) := by
     intro a k h1 h4 h12
     have g1 := Jd6 (unf s 0).1 (by omega) (at_ := a) h1 h4 (by omega)
     have g2 := JdF (unf s 0).1 (by omega) (at_ := a) h1 h4 (by omega)
     rw [if_pos (by omega)] at g1 g2
     refine ⟨g1, ?_⟩
     unfold J1x
     rw [g2]
     rfl
    have g1 := g 4 4 (by decide) (by decide) (by decide)
    have g2 := g 8 2 (by decide) (by decide) (by decide)
    have g3 := g 10 2 (by decide) (by decide) (by decide)
    rw [show ((4 : Nat) : Int) = 4 from rfl] at g1
    rw [show ((8 : Nat) : Int) = 8 from rfl, show ((2 : Nat) : Int) = 2 from rfl] at g2
    rw [show ((10 : Nat) : Int) = 10 from rfl, show ((2 : Nat) : Int) = 2 from rfl] at g3
    rw [g1.1, g1.2, g2.1, g2.2, g3.1, g3.2]
    simp only [Option.bind_some]
    generalize leV (part (unf s 0).1 10 2) = n
    by_cases hn : n ≤ 64
    ·have c3 : decide (((n : Nat) : Int) > 64) = false := by simp; omega
     simp only [c3, Bool.false_eq_true, if_false, hn, if_true]
     rw [hk, Int.toNat_natCast]
     exact JpC s hs _ _ n hn [] 0 0 n 0 k [] (by omega) hks rfl
    ·have c3 : decide (((n : Nat) : Int) > 64) = true := by simp; omega
     simp only [c3, if_true, hn, if_false]
     exact ⟨rfl, rfl⟩
   ·have c2 : ((unf s 0).1.take 4 == [80, 77, 73, 77]) = false := by simp [hm]
    simp only [c2, Bool.false_eq_true, if_false, hm]
    exact ⟨rfl, rfl⟩
  ·have c1 : ((((unf s 0).1.length : Nat) : Int) != 12) = true := by simp; omega
   simp only [c1, if_true, hl, if_false]
   exact ⟨rfl, rfl⟩
 ·have c0 : ((unf s 0).2.2 != 0) = true := by simpa using h0
  simp only [c0, if_true]
  exact ⟨rfl, rfl⟩
end Go.Am
end
section
namespace Go.Am
set_option maxRecDepth 16000
set_option linter.unusedSimpArgs false
set_option linter.unusedVariables false
theorem Jip {σ ρ : Type} {f : σ → Option (σ ⊕ ρ)} (I : σ → Prop) (m : σ → Nat) (Q : ρ → Prop)
  (h : ∀ s, I s → Tot (f s) fun r => (∃ s', r = .inl s' ∧ I s' ∧ m s' < m s) ∨ ∃ x, r = .inr x ∧ Q x) {s : σ} (hs : I s) : Tot (Jr f s) Q := by
 obtain ⟨r, h1, h2⟩ := J0R (f := f) I m Q (fun s hs => by
  obtain ⟨r, e, h3⟩ := h s hs
  rcases h3 with ⟨s', rfl, h4, h5⟩ | ⟨x, rfl, h4⟩
  ·exact .inl ⟨s', e, h4, h5⟩
  ·exact .inr ⟨x, e, h4⟩) s hs
 exact ⟨r, h1, h2⟩
theorem Jp1 {p : T_api_Page} (hp : J6r p) : J38 p = some (Jh2 p, 0) := by rw [JeQ, Jmb hp]
section
variable {b : T_pagemenddraw_Codes} (hb : J0r b)
include hb
theorem JwS {id : Int} (h0 : 0 ≤ id) (h1 : id < 64) : Drw (J3g b id) fun p => J6r p ∧ p.ID = id := by
 obtain ⟨p, b', e, h2, h3, h4⟩ := Js2 hb h0 h1
 exact ⟨_, e, h2, h3, h4⟩
theorem JuE : Drw (J2R b) fun t => t.length = 256 := by
 obtain ⟨p, b', e, h2, h3⟩ := JsK hb
 exact ⟨_, e, h2, h3⟩
theorem JuU {id : Int} (h0 : 0 ≤ id) (h1 : id < 64) : Drw (J7A b id) fun t => t.length = 256 := by
 unfold J7A
 refine .bind (J8q hb (by omega) (by omega)) fun r1 ⟨h2, q2⟩ => .both ?_ (.both ?_ ?_)
 ·exact .eq JlQ (.some ⟨h2, Jv2⟩)
 ·exact .bind (JuE h2) fun r3 ⟨h3, q3⟩ => .some ⟨h3, q3⟩
 ·refine .bind (JwS h2 h0 h1) fun r3 ⟨h3, q3, q4⟩ => .eq (Jp1 q3) (.some ⟨h3, Jsh q3⟩)
theorem Jv7 : Drw (J7B b) fun x => J2O x ∧ x.Pages ≤ 6 := by
 unfold J7B
 refine .bind (J8q hb (by omega) (by omega)) fun r1 ⟨h1, q1⟩ => .bind (J8q h1 (by omega) (by omega)) fun r2 ⟨h2, q2⟩ => ?_
 unfold Jbl
 refine Jip (fun s : Int × T_pagemenddraw_Codes × T_api_Image => 0 ≤ s.1 ∧ s.1 ≤ 6 ∧ J0r s.2.1 ∧ J2O s.2.2 ∧ s.2.2.Pages ≤ 6) (fun s => (6 - s.1).toNat) _ ?_ ?_
 ·rintro ⟨k, b', x⟩ ⟨k0, k6, hb', hx, hp⟩
  dsimp only at *
  unfold J7Q
  refine .ite (fun hlt => ?_) (fun hge => ?_)
  ·have hlt : k < x.Pages := by simpa using hlt
   have e3 : IntKind.wrap .i64 (k + 1) = k + 1 := wrap64 (by omega) (by omega)
   unfold J6h
   simp only [e3]
   refine .bind (J8q hb' (by omega) (by omega)) fun r3 ⟨h3, q3⟩ => .both ?_ ?_
   ·exact .some (.inl ⟨_, rfl, ⟨by dsimp only; omega, by dsimp only; omega, h3, hx, hp⟩, by dsimp only; omega⟩)
   ·refine .bind (JuU h3 k0 (by omega)) fun r4 ⟨h4, q4⟩ => ?_
    have hl : x.Copies.length ≤ 64 := by have := hx.len; omega
    obtain ⟨r, e1, e2, ok, _⟩ := JvR (x := x) (by omega) k r4.1
    refine .eq e2 (.ite (fun h0 => ?_) (fun _ => ?_))
    ·obtain ⟨_, y1, y2⟩ := ok (by simpa using h0)
     exact .some (.inl ⟨_, rfl, ⟨by dsimp only; omega, by dsimp only; omega, h4, y1, by dsimp only; omega⟩, by dsimp only; omega⟩)
    ·exact .some (.inl ⟨_, rfl, ⟨by dsimp only; omega, by dsimp only; omega, h4, hx, hp⟩, by dsimp only; omega⟩)
  ·exact .some (.inr ⟨_, rfl, hb', hx, hp⟩)
 ·have e1 : IntKind.wrap .i64 (1 + r1.1) = 1 + r1.1 := wrap64 (by omega) (by omega)
  have e2 : IntKind.wrap .i64 (1 + r2.1) = 1 + r2.1 := wrap64 (by omega) (by omega)
  rw [e1, e2]
  refine ⟨by dsimp only; omega, by dsimp only; omega, h2, ⟨by dsimp only; omega, by dsimp only; omega, by dsimp only; omega, by dsimp only; omega, fun c hc => (List.not_mem_nil hc).elim, fun k hk => (Nat.not_lt_zero _ hk).elim⟩, by dsimp only; omega⟩
theorem Jxz {x : T_api_Image} (hx : J2O x) (hp : x.Pages ≤ 6) : Drw (J8G b x) fun y => y.Copies.length ≤ 64 := by
 have hl : x.Copies.length ≤ 6 := by have := hx.len; omega
 unfold J8G
 refine .eq (v := x.Copies) (by unfold Jqu; rw [if_pos (by simp [J5n]; omega)]) ?_
 by_cases h0 : x.Copies.length = 0
 ·rw [if_pos (by simp [h0])]
  exact .bind (Jur hb) fun r1 ⟨h1, _⟩ => .bind (Jur h1) fun r2 ⟨h2, _⟩ => .some ⟨h2, by dsimp only; omega⟩
 ·rw [if_neg (by simpa using h0)]
  refine .bind (J8q hb (by omega) (by omega)) fun r1 ⟨h1, q1⟩ => ?_
  obtain ⟨r, b1⟩ := r1
  simp only at h1 q1 ⊢
  obtain ⟨k, rfl⟩ : ∃ k : Nat, r = (k : Int) := ⟨r.toNat, by omega⟩
  have hk : k < x.Copies.length := by omega
  have hd := hx.data _ (List.getElem_mem hk)
  refine .eq (v := x.Copies[k]) (by rw [J3y, List.getElem?_eq_getElem hk]) (.bind (J8q h1 (by omega) (by omega)) fun r2 ⟨h2, _⟩ => .both ?_ (.both ?_ (.both ?_ (.both ?_ ?_))))
  ·exact .bind (J8q h2 (by omega) (by omega)) fun r3 ⟨h3, _⟩ => .eq rfl (.some ⟨h3, by simp; omega⟩)
  ·exact .eq rfl (.some ⟨h2, by simp; omega⟩)
  ·exact .bind (JoA h2 (by omega)) fun r3 ⟨h3, _⟩ => .eq rfl (.some ⟨h3, by simp; omega⟩)
  ·exact .bind (J8q h2 (by omega) (by omega)) fun r3 ⟨h3, _⟩ => .some ⟨h3, by dsimp only; omega⟩
  ·exact .some ⟨h2, by dsimp only; omega⟩
end
theorem Jiv : J2O ⟨1, 1, []⟩ := ⟨by decide, by decide, by decide, by decide, fun c hc => (List.not_mem_nil hc).elim, fun k hk => (Nat.not_lt_zero _ hk).elim⟩
theorem Jvw : J5K = some true := by
 unfold J5K
 rw [JgS (by simp), J52.2 Jiv, if_pos rfl, Option.bind_some]
 have hl := JoG Jiv
 rw [if_pos (by rfl), if_pos (by dsimp only; rw [hl]; rfl), J4d _ (by simp), J52.2 Jiv]
 rfl
end Go.Am
end
section
namespace Go.Am
set_option maxRecDepth 16000
set_option linter.unusedSimpArgs false
set_option linter.unusedVariables false
theorem Jml (s : List UInt8) : (JoL s).1.Copies.length ≤ 64 := by
 have key : ∀ (m at_ : Nat) (out : List T_api_Copy) (a b : Int), out.length + m ≤ 64 → (JeO s a b m at_ out).1.Copies.length ≤ 64 := by
  intro m
  induction m with
  | zero =>
   intro at_ out a b h
   unfold JeO
   split
   ·simp [J7s]
   ·split
    ·dsimp only; omega
    ·simp [J7s]
  | succ m ih =>
   intro at_ out a b h
   unfold JeO
   split
   ·simp [J7s]
   ·split
    ·exact ih _ _ _ _ (by simp; omega)
    ·simp [J7s]
 unfold JoL
 split
 ·simp [J7s]
 ·split
  ·split
   ·split
    ·exact key _ _ _ _ _ (by simp; omega)
    ·simp [J7s]
   ·simp [J7s]
  ·simp [J7s]
theorem JgK {l : List Int} {s : List UInt8} {q : Prop} (h : List.length l ≤ maxLen ∧ ∀ x ∈ l, 0 ≤ x ∧ x ≤ 255) (_ : q) : J45 l s = some true := by
 have key : Tot (J45 l s) fun r => r = true := by
  unfold J45
  refine .eq Jvw ?_
  rw [if_pos rfl]
  refine .ite (fun _ => .some rfl) (fun hs => ?_)
  have hs : s.length ≤ 2000 := by simp at hs; omega
  obtain ⟨b, e, hb⟩ := JvV h (n := 400) (by omega)
  refine .eq e (.bind (Jv7 hb) fun r1 ⟨h1, q1, q2⟩ => .bind (Jxz h1 q1 q2) fun r2 ⟨h2, q3⟩ => ?_)
  have hl1 : r1.1.Copies.length ≤ 6 := by have := q1.len; omega
  unfold J7Y
  refine Jip (fun k : Int => ∃ j : Nat, j ≤ 2 ∧ k = j) (fun k => (2 - k).toNat) _ ?_ ⟨0, by decide, rfl⟩
  rintro _ ⟨k, hk, rfl⟩
  unfold J4i
  refine .ite (fun hlt => ?_) (fun hge => ?_)
  ·have hlt : k < 2 := by
    have : (k : Int) < (([r1.1, r2.1] : List T_api_Image).length : Int) := by simpa using hlt
    simp at this; omega
   have e3 : IntKind.wrap .i64 ((k : Int) + 1) = ((k + 1 : Nat) : Int) := by rw [wrap64 (by omega) (by omega)]; omega
   have ey : ∃ y, idx ([r1.1, r2.1] : List T_api_Image) (k : Int) = some y ∧ y.Copies.length ≤ 64 := by
    match k, hlt with
    | 0, _ => exact ⟨_, rfl, by omega⟩
    | 1, _ => exact ⟨_, rfl, q3⟩
   obtain ⟨y, ey, hy⟩ := ey
   refine .eq ey (.eq (JgS (by omega)) (.eq (Jgi (by omega)) ?_))
   rw [if_neg (by simp), if_pos (by simp), e3]
   exact .some (.inl ⟨_, rfl, ⟨k + 1, by omega, rfl⟩, by omega⟩)
  ·refine .map (Q := fun r => r = true) ?_ (fun r hr => .inr ⟨r, rfl, hr⟩)
   unfold J5Z
   have hlb := JoG q1
   refine .eq (Jgi (by omega)) ?_
   rw [J52.2 q1, if_pos rfl]
   dsimp only
   refine .bind (JoA h2 (by omega)) fun r3 ⟨h3, q5⟩ => .eq (J5y (by omega)) (.eq (v := (((JdT r1.1).length / 2 : Nat) : Int)) ?_ (.eq (JcW _ (b := (JdT r1.1).length / 2) (by omega)) ?_))
   ·unfold JqB
    rw [if_neg (by decide), Int.tdiv_eq_ediv_of_nonneg (by omega), wrap64 (by omega) (by omega)]
    congr 1
   unfold J8e
   generalize hL : ([JdT r1.1, r3.1, JdT r1.1 ++ s, s, (JdT r1.1).take ((JdT r1.1).length / 2)] : List (List UInt8)) = L
   have hall : ∀ t ∈ L, t.length ≤ 100000 := by
    rw [← hL]
    intro t ht
    simp only [List.mem_cons, List.not_mem_nil, or_false] at ht
    rcases ht with rfl | rfl | rfl | rfl | rfl
    ·omega
    ·omega
    ·simp; omega
    ·omega
    ·simp; omega
   have hlen : L.length = 5 := by rw [← hL]; rfl
   refine Jip (fun k : Int => ∃ j : Nat, j ≤ 5 ∧ k = j) (fun k => (5 - k).toNat) _ ?_ ⟨0, by decide, rfl⟩
   rintro _ ⟨j, hj, rfl⟩
   unfold J4q
   refine .ite (fun hlt => ?_) (fun hge => .some (.inr ⟨_, rfl, rfl⟩))
   have hlt : j < 5 := by simp at hlt; omega
   have e3 : IntKind.wrap .i64 ((j : Int) + 1) = ((j + 1 : Nat) : Int) := by rw [wrap64 (by omega) (by omega)]; omega
   have ht := hall _ (List.getElem_mem (show j < L.length by omega))
   obtain ⟨d1, d2⟩ := JnR ht
   refine .eq (v := L[j]) (by rw [J3y, List.getElem?_eq_getElem]) (.eq d1 (.eq d2 ?_))
   rw [if_neg (by simp)]
   refine .eq (JtX (by have := Jml L[j]; omega)) ?_
   rw [if_pos (by simp), e3]
   exact .some (.inl ⟨_, rfl, ⟨j + 1, by omega, rfl⟩, by omega⟩)
 obtain ⟨r, e, rfl⟩ := key
 exact e
def cnt (l : List Bool) : Nat → Nat
 | 0 => 0
 | k + 1 => cnt l k + if l[k]? = some true then 1 else 0
theorem JkI : ∀ (k : Nat) (t : List Bool) (l : List T_api_Copy), (l.Pairwise fun a b => a.Page < b.Page) → (∀ y ∈ l, 0 ≤ y.Page ∧ y.Page < k) → (∀ i : Nat, i < k → (t[i]? = some true ↔ ∃ y ∈ l, y.Page = i)) → l.length = cnt t k
 | 0, t, l, _, h, _ => by
  cases l with
  | nil => rfl
  | cons y l => have := h y (by simp); omega
 | k + 1, t, l, hp, h, hi => by
  unfold cnt
  by_cases hk : ∃ y ∈ l, y.Page = (k : Int)
  ·
   obtain ⟨y, hy, hpg⟩ := hk
   obtain ⟨a, z, rfl⟩ : ∃ a z, l = a ++ [z] := by
    rcases List.eq_nil_or_concat l with h0 | ⟨a, z, h0⟩
    ·rw [h0] at hy; cases hy
    ·exact ⟨a, z, by rw [h0, List.concat_eq_append]⟩
   rw [List.pairwise_append] at hp
   have hz : z.Page = (k : Int) := by
    rcases List.mem_append.1 hy with hy | hy
    ·have := hp.2.2 y hy z (by simp); have := (h z (by simp)).2; omega
    ·simp at hy; rw [← hy]; exact hpg
   have hlt : ∀ w ∈ a, w.Page < k := fun w hw => by have := hp.2.2 w hw z (by simp); omega
   have := JkI k t a hp.1 (fun w hw => ⟨(h w (by simp [hw])).1, hlt w hw⟩) (fun i hik => by
    rw [hi i (by omega)]
    constructor
    ·rintro ⟨w, hw, e⟩
     rcases List.mem_append.1 hw with hw | hw
     ·exact ⟨w, hw, e⟩
     ·simp at hw; subst hw; omega
    ·rintro ⟨w, hw, e⟩
     exact ⟨w, by simp [hw], e⟩)
   rw [List.length_append, this, if_pos ((hi k (by omega)).2 ⟨y, hy, hpg⟩)]
   rfl
  ·have := JkI k t l hp (fun w hw => ⟨(h w hw).1, by
    have h1 := (h w hw).2
    have : w.Page ≠ k := fun e => hk ⟨w, hw, e⟩
    omega⟩) (fun i hik => hi i (by omega))
   rw [this, if_neg (fun e => hk ((hi k (by omega)).1 e))]
   rfl
structure Juu (x : T_api_Image) (t : List Bool) : Prop where
 ok : J2O x
 small : x.Pages ≤ 8
 len : (t.length : Int) = x.Pages
 iff : ∀ i : Nat, i < t.length → (t[i]? = some true ↔ ∃ y ∈ x.Copies, y.Page = i)
theorem Juu.count {x : T_api_Image} {t : List Bool} (h : Juu x t) : x.Copies.length = cnt t t.length := by
 refine JkI t.length t x.Copies (JoE.1 h.ok.ord) (fun y hy => ?_) (fun i hi => h.iff i hi)
 have := Jas (h.ok.copies y hy)
 have := h.len
 omega
end Go.Am
end
