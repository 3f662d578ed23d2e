/-
  Parts of a proof: YteiakclfpfmigaaPlain3, YteiakclfpfmigaaPlain4, YteiakclfpfmigaaBack, YteiakclfpfmigaaBack2, YteiakclfpfmigaaBack3, YteiakclfpfmigaaBack4, YteiakclfpfmigaaBack5, YteiakclfpfmigaaInj, YteiakclfpfmigaaInj2, YteiakclfpfmigaaRef, YteiakclfpfmigaaRef2, YteiakclfpfmigaaLaws, YteiakclfpfmigaaPidx, YteiakclfpfmigaaPidx2, YteiakclfpfmigaaLoops, YteiakclfpfmigaaTot, YteiakclfpfmigaaPidx3, YteiakclfpfmigaaPidx4, YteiakclfpfmigaaPidx5, YteiakclfpfmigaaPidx6, AmIn.
-/
import Derived.ChangeArms
import Derived.OpenShut
import Derived.ChangeBears
import Derived.ChangeStays
import Derived.Handed
import Derived.RowKit3
import Derived.Test.YteiakclfpfmigaaM4
import Derived.Test.YteiakclfpfmigaaM9
set_option linter.unusedSimpArgs false
set_option linter.unusedVariables false
section
namespace Go.Am
theorem JoL {α : Type} (l : List α) {b : Nat} (h2 : b ≤ l.length) : J7D l none (some (b : Int)) = some (l.take b) := by
  have e1 : (0 : Int) ≤ b ∧ (b : Int) ≤ l.length := by omega
  simp only [J7D, JhQ, Jew, e1, and_self, if_true, Int.toNat_natCast, List.drop_zero, Nat.sub_zero]
theorem JpF {α : Type} (l : List α) {a : Nat} (h2 : a ≤ l.length) : J7D l (some (a : Int)) none = some (l.drop a) := by
  have e1 : (0 : Int) ≤ a ∧ (a : Int) ≤ l.length := by omega
  simp only [J7D, JhQ, Jew, e1, and_self, if_true, Int.toNat_natCast]
  rw [List.take_of_length_le (by simp)]
end Go.Am
end
section
namespace Go.Am
def blk : List UInt8 := List.replicate 256 0
end Go.Am
end
section
namespace Go.Am
theorem JoC {x b j : Nat} (hj : j ≤ 7) (hx : x < 2 ^ (8 * j)) (hb : b < 256) :
    orI .u64 (x : Int) (IntKind.wrap .u64 (((b : Nat) : Int) * 2 ^ (8 * j))) = ((x + b * 2 ^ (8 * j) : Nat) : Int) := by
  have p1 : (2 : Nat) ^ (8 * j) * 256 ≤ 2 ^ 64 := by
    rw [show (256 : Nat) = 2 ^ 8 by rfl, ← Nat.pow_add]
    exact Nat.pow_le_pow_right (by omega) (by omega)
  have p2 : b * 2 ^ (8 * j) + 2 ^ (8 * j) ≤ 2 ^ 64 := by
    have : (b + 1) * 2 ^ (8 * j) ≤ 256 * 2 ^ (8 * j) := Nat.mul_le_mul_right _ (by omega)
    rw [Nat.add_mul, Nat.one_mul] at this
    omega
  have w : IntKind.wrap .u64 (((b : Nat) : Int) * 2 ^ (8 * j)) = ((b * 2 ^ (8 * j) : Nat) : Int) := by
    have e : (((b : Nat) : Int) * 2 ^ (8 * j)) = ((b * 2 ^ (8 * j) : Nat) : Int) := by simp
    rw [e, Jan (by omega) (by omega)]
  rw [w]
  have e1 : ∀ y : Nat, y < 2 ^ 64 → (BitVec.ofInt 64 (y : Int)).toNat = y := by
    intro y hy
    rw [BitVec.toNat_ofInt]
    omega
  show IntKind.wrap .u64 (((BitVec.ofInt 64 (x : Int) ||| BitVec.ofInt 64 ((b * 2 ^ (8 * j) : Nat) : Int)).toNat : Nat) : Int) = _
  rw [BitVec.toNat_or, e1 x (by omega), e1 _ (by omega)]
  have e2 : x ||| b * 2 ^ (8 * j) = x + b * 2 ^ (8 * j) := by
    rw [Nat.or_comm, Nat.mul_comm b, ← Nat.two_pow_add_eq_or_of_lt hx, Nat.add_comm]
  rw [e2, Jan (by omega) (by omega)]
theorem JnZ {n i : Nat} (hn : n < 2 ^ 64) : J6C (n : Int) i = ((n / 2 ^ (8 * i) % 256 : Nat) : Int) := by
  show ((IntKind.wrap .u64 (n : Int)).fdiv (2 ^ (8 * i))) % 256 = _
  rw [Int.fdiv_eq_ediv_of_nonneg _ (Int.le_of_lt (Int.pow_pos (by decide))), Jan (by omega) (by omega)]
  simp
theorem JpC {n : Int} {k i : Nat} (h : i < k) : (J0R n k)[i]? = some (UInt8.ofNat (J6C n i).toNat) := by
  simp [J0R, toStr, h]
theorem Jse (pre post : List UInt8) {n k : Nat} (h1 : 1 ≤ k) (h8 : k ≤ 8) (hn : n < 2 ^ (8 * k)) (hn2 : n < 2 ^ 63) (hl : (pre ++ (J0R n k ++ post)).length ≤ 1000) :
    J0Q (pre ++ (J0R n k ++ post)) (pre.length : Int) (k : Int) = some ((n : Int), 0) := by
  generalize hs : pre ++ (J0R n k ++ post) = s at hl
  have hlen : pre.length + k ≤ s.length := by rw [← hs]; simp [J2b]
  have c1 : ¬ ((k : Int) < 1) := by omega
  have c2 : ¬ ((k : Int) > 8) := by omega
  have c3 : ¬ ((pre.length : Int) < 0) := by omega
  have c4 : ¬ ((pre.length : Int) > (s.length : Int)) := by omega
  have e0 : IntKind.wrap .i64 ((s.length : Int) - pre.length) = (s.length : Int) - pre.length := J0G (by omega) (by omega)
  have c5 : ¬ ((s.length : Int) - pre.length < k) := by omega
  unfold J0Q
  simp only [c1, c2, c3, c4, c5, e0, decide_false, Bool.false_eq_true, if_false]
  have key : ∀ (m j : Nat), j + m = k → J00 (fun q : Int × Int => J1u s pre.length k q.1 q.2) (((n % 2 ^ (8 * j) : Nat) : Int), (j : Int)) = some ((n : Int), 0) := by
    intro m
    induction m with
    | zero =>
      intro j hj
      obtain rfl : j = k := by omega
      have e1 : ¬ ((j : Nat) : Int) < (j : Int) := by omega
      refine J7O ?_
      simp only [J1u, e1, decide_false, Bool.false_eq_true, if_false, J6R, Option.map_some, Nat.mod_eq_of_lt hn]
      rw [J0G (by omega) (by omega)]
    | succ m ih =>
      intro j hj
      have e1 : ((j : Nat) : Int) < (k : Int) := by omega
      have e2 : IntKind.wrap .i64 ((pre.length : Int) + (j : Int)) = ((pre.length + j : Nat) : Int) := by rw [J0G (by omega) (by omega)]; omega
      have e3 : IntKind.wrap .i64 (8 * (j : Int)) = ((8 * j : Nat) : Int) := by rw [J0G (by omega) (by omega)]; omega
      have hb : (s[pre.length + j]'(by omega)).toNat = n / 2 ^ (8 * j) % 256 := by
        have h5 : s[pre.length + j]? = some (UInt8.ofNat (J6C (n : Int) j).toNat) := by
          rw [← hs, List.getElem?_append_right (by omega), Nat.add_sub_cancel_left, List.getElem?_append_left (by rw [J2b]; omega), JpC (by omega)]
        rw [List.getElem?_eq_getElem (by omega)] at h5
        injection h5 with h5
        have h6 := Jio (n : Int) j
        rw [← h5, JnZ (by omega)] at h6
        omega
      have hb2 : n / 2 ^ (8 * j) % 256 < 256 := Nat.mod_lt _ (by omega)
      have e4 : Jeo .u64 (IntKind.wrap .u64 (((s[pre.length + j]'(by omega)).toNat : Nat) : Int)) ((8 * j : Nat) : Int) = some (IntKind.wrap .u64 (((n / 2 ^ (8 * j) % 256 : Nat) : Int) * 2 ^ (8 * j))) := by
        rw [hb, Jan (by omega) (by omega)]
        simp only [Jeo]
        rw [if_neg (by omega)]
        have : min (((8 * j : Nat) : Int)).toNat IntKind.u64.bits = 8 * j := by
          simp only [Int.toNat_natCast]
          exact Nat.min_eq_left (by show 8 * j ≤ 64; omega)
        rw [this]
      have e5 := JoC (x := n % 2 ^ (8 * j)) (b := n / 2 ^ (8 * j) % 256) (j := j) (by omega) (Nat.mod_lt _ (Nat.two_pow_pos _)) hb2
      have e6 : n % 2 ^ (8 * j) + n / 2 ^ (8 * j) % 256 * 2 ^ (8 * j) = n % 2 ^ (8 * (j + 1)) := by
        rw [Nat.mul_add, Nat.pow_add, Nat.mod_mul, Nat.mul_comm (n / 2 ^ (8 * j) % 256)]
      rw [e6] at e5
      refine (J9N (s' := (((n % 2 ^ (8 * (j + 1)) : Nat) : Int), ((j + 1 : Nat) : Int))) ?_).trans (ih (j + 1) (by omega))
      simp only [J1u, e1, decide_true, if_true, e2, Jg8 (show pre.length + j < s.length by omega), Option.bind_some, e3, e4, e5, J44 (show j < 1000000 by omega)]
  have h0 := key k 0 (by omega)
  simp only [Nat.mul_zero, Nat.pow_zero, Nat.mod_one] at h0
  exact h0
end Go.Am
end
section
namespace Go.Am
end Go.Am
end
section
namespace Go.Am
end Go.Am
end
section
namespace Go.Am
end Go.Am
end
section
namespace Go.Am
end Go.Am
end
section
namespace Go.Am
theorem Jqn {b : T_pagemenddraw_Codes} (hb : J0v b) : ∃ x b', J2s b = some (x, b') ∧ J0v b' := by
  obtain ⟨r, b1, e1, hb1, _, _⟩ := J4T hb (n := 10) (by omega) (by omega)
  unfold J2s
  simp only [e1, Option.bind_some]
  by_cases h0 : r = 0
  · obtain ⟨r2, b2, e2, hb2, _, _⟩ := J4T hb1 (n := 3) (by omega) (by omega)
    exact ⟨_, b2, by rw [if_pos (by simpa using h0), e2]; rfl, hb2⟩
  · rw [if_neg (by simpa using h0)]
    by_cases h1 : r = 1
    · obtain ⟨r2, b2, e2, hb2, hr0, hr1⟩ := J4T hb1 (n := 16) (by omega) (by omega)
      obtain ⟨k, rfl⟩ : ∃ k : Nat, r2 = (k : Int) := ⟨r2.toNat, by omega⟩
      rw [if_pos (by simpa using h1), e2]
      simp only [Option.bind_some, Jdb]
      rw [List.getElem?_eq_getElem (by simp; omega)]
      exact ⟨_, b2, rfl, hb2⟩
    · obtain ⟨r2, b2, e2, hb2, _, _⟩ := J4T hb1 (n := 20) (by omega) (by omega)
      rw [if_neg (by simpa using h1), e2]
      exact ⟨_, b2, rfl, hb2⟩
end Go.Am
end
section
namespace Go.Am
end Go.Am
end
section
namespace Go.Am
end Go.Am
end
section
namespace Go.Am
set_option maxRecDepth 16000
theorem bind_none {α β : Type} {o : Option α} {f : α → Option β} (h : Option.bind o f = none) (h2 : ∀ x, o = some x → f x ≠ none) : o = none := by
  cases o with
  | none => rfl
  | some x => exact (h2 x rfl h).elim
end Go.Am
end
section
namespace Go.Am
set_option maxRecDepth 16000
theorem JqF {b : T_pagemenddraw_Codes} (hb : J0v b) {n : Int} (h1 : 1 ≤ n) (h2 : n ≤ 65536) : ∃ r b', Js b n = some (r, b') ∧ J0v b' ∧ 0 ≤ r ∧ r < n := by
  by_cases hn : n ≤ 256
  · exact J4T hb h1 hn
  · by_cases hc : b.at_ ≥ (b.l_.length : Int)
    · refine ⟨0, b, ?_, hb, by omega, by omega⟩
      show J0S (11 + 1) b n = _
      simp only [J0S, J2Y, hc, decide_true, if_true]
    · obtain ⟨ha, hb1, hl, hx⟩ := hb
      obtain ⟨k, hk⟩ : ∃ k : Nat, b.at_ = (k : Int) := ⟨b.at_.toNat, by omega⟩
      have hk2 : k < b.l_.length := by omega
      have hy := hx _ (List.getElem_mem hk2)
      have e1 : ¬ n < 1 := by omega
      have e2 : n > 256 := by omega
      have e3 : idx b.l_ b.at_ = some b.l_[k] := by rw [hk, Jdb, List.getElem?_eq_getElem hk2]
      have hb' : J0v ⟨b.l_, b.at_ + 1⟩ := ⟨by show 0 ≤ b.at_ + 1; omega, by show b.at_ + 1 ≤ (b.l_.length : Int); omega, hl, hx⟩
      obtain ⟨r, b2, e4, hb2, hr0, hr1⟩ := Jiw hb' (n := 256) (by omega) (by omega) 10
      have e5 : IntKind.wrap .i64 (b.at_ + 1) = b.at_ + 1 := J0G (by omega) (by omega)
      have e6 : IntKind.wrap .i64 (IntKind.wrap .i64 (256 * IntKind.wrap .i64 b.l_[k]) + r) = 256 * b.l_[k] + r := by
        rw [J0G (n := b.l_[k]) (by omega) (by omega), J0G (n := 256 * b.l_[k]) (by omega) (by omega), J0G (by omega) (by omega)]
      have e7 : ¬ n = 0 := by omega
      refine ⟨(256 * b.l_[k] + r).tmod n, b2, ?_, hb2, Int.tmod_nonneg _ (by omega), Int.tmod_lt_of_pos _ (by omega)⟩
      show J0S (11 + 1) b n = _
      have e8 : J0S 11 ⟨b.l_, b.at_ + 1⟩ 256 = some (r, b2) := e4
      rw [show J0S (11 + 1) = J2Y (J0S 11) from rfl]
      simp only [J2Y, hc, e1, e2, e3, e5, e6, e8, decide_true, decide_false, if_true, Bool.false_eq_true, if_false, Option.bind_some, JjF, e7]
theorem JrV {l : List Int} (h : List.length l ≤ maxLen ∧ ∀ x ∈ l, 0 ≤ x ∧ x ≤ 255) {n : Nat} (hn : n ≤ 1000) : ∃ b, J79 l (n : Int) = some b ∧ J0v b := Jtc h.2 hn
theorem Jem {α ρ : Type} {f : Int → Option (Int ⊕ ρ)} {l : List α} {out : ρ} (hl : l.length < 1000000) (h1 : ∀ (k : Nat) (h : k < l.length), f (k : Int) = some (.inl ((k + 1 : Nat) : Int))) (h2 : f (l.length : Int) = some (.inr out)) : J00 f 0 = some out := by
  obtain ⟨b, hb, rfl⟩ := J5v (f := f) (fun q => ∃ j : Nat, q = j ∧ j ≤ l.length) (fun q => (l.length - q).toNat) (fun b => b = out) (fun q ⟨j, hj, h4⟩ => by
    subst hj
    by_cases hlt : j < l.length
    · left
      exact ⟨((j + 1 : Nat) : Int), h1 j hlt, ⟨j + 1, rfl, by omega⟩, by omega⟩
    · right
      obtain rfl : j = l.length := by omega
      exact ⟨out, h2, rfl⟩) 0 ⟨0, rfl, by omega⟩
  exact hb
end Go.Am
end
section
namespace Go.Am
set_option maxRecDepth 16000
structure Jcf (r : T_api_Row) : Prop where
  l0 : 0 ≤ r.LSN
  l1 : r.LSN ≤ 1099511627776
  i0 : 0 ≤ r.Image
  i1 : r.Image ≤ 1099511627776
  m0 : 0 ≤ r.ImageLSN
  m1 : r.ImageLSN ≤ 1099511627776
  im : r.Image = 0 → r.ImageLSN = 0
def Jdm (l : List T_api_Row) : Prop := ∀ r ∈ l, Jcf r
structure J9l (x : T_api_Index) : Prop where
  n1 : 1 ≤ x.Rows.length
  n2 : x.Rows.length ≤ 64
  rows : Jdm x.Rows
theorem JhX {l : List T_api_Row} {k : Nat} {r : T_api_Row} (h : Jdm l) (hr : Jcf r) : Jdm (l.set k r) := by
  intro q hq
  rcases List.mem_or_eq_of_mem_set hq with h1 | rfl
  · exact h _ h1
  · exact hr
theorem Jn9 {α : Type} {l : List α} {k : Nat} {v : α} (h : k < l.length) : idx (l.set k v) (k : Int) = some v := by
  rw [Jdb, List.getElem?_set_self h]
theorem J4q {α : Type} {l : List α} {k : Nat} (h : k < l.length) : idx l (k : Int) = some l[k] := by
  rw [Jdb, List.getElem?_eq_getElem h]
theorem Jd4 {n : Int} (h0 : 0 ≤ n) (h1 : n ≤ 1099511627776) : J0t n = some true := by
  simp [J0t, h0, h1]
theorem Jqg {r : T_api_Row} (h : Jcf r) : J1n r = some false := by
  unfold J1n
  simp only [Jd4 h.l0 h.l1, Jd4 h.i0 h.i1, Jd4 h.m0 h.m1, Option.bind_some, if_true]
  by_cases hi : r.Image = 0
  · simp [hi, h.im hi]
  · simp [hi]
theorem JgO {x : T_api_Index} (h : J9l x) : J0J x = some true := by
  have n1 := h.n1; have n2 := h.n2
  have e : JY x.Rows = some (-1) := by
    refine Jem (f := fun s => JA x.Rows (x.Rows.length : Int) s) (l := x.Rows) (by omega) (fun k hk => ?_) ?_
    · have e1 : ((k : Nat) : Int) < (x.Rows.length : Int) := by omega
      simp only [JA, e1, decide_true, if_true, J4q hk, Option.bind_some, Jqg (h.rows _ (List.getElem_mem hk)), Bool.false_eq_true, if_false, J44 (show k < 1000000 by omega)]
    · have e1 : ¬ ((x.Rows.length : Nat) : Int) < (x.Rows.length : Int) := by omega
      simp only [JA, e1, decide_false, Bool.false_eq_true, if_false, J04, Option.map_some]
  have c1 : ((x.Rows.length : Nat) : Int) ≥ 1 := by omega
  have c2 : ((x.Rows.length : Nat) : Int) ≤ 64 := by omega
  have e3 : decide ((-1 : Int) ≥ 0) = false := rfl
  simp only [J0J, c1, c2, decide_true, if_true, JT, e, Option.bind_some, e3, Bool.not_false]
theorem Jkm (n : Nat) : Jdm (List.replicate n ⟨0, 0, 0⟩) := by
  intro r hr
  obtain rfl := (List.mem_replicate.1 hr).2
  exact ⟨by simp, by simp, by simp, by simp, by simp, by simp, fun _ => rfl⟩
theorem Jjd {n : Nat} (h : n ≤ 64) : mkS 24 (n : Int) (n : Int) (⟨0, 0, 0⟩ : T_api_Row) = some (List.replicate n ⟨0, 0, 0⟩) := by
  have e : (0 : Int) ≤ (n : Int) ∧ (n : Int) ≤ (n : Int) ∧ ((24 : Nat) : Int) * (n : Int) ≤ 281474976710656 ∧ (n : Int) ≤ 281474976710656 := by omega
  unfold mkS
  rw [if_pos e, Int.toNat_natCast]
theorem JoX {n : Nat} (h1 : 1 ≤ n) (h2 : n ≤ 64) : J1O (n : Int) = some (⟨List.replicate n ⟨0, 0, 0⟩⟩, 0) := by
  have c1 : ¬ (n : Int) < 1 := by omega
  have c2 : ¬ (n : Int) > 64 := by omega
  simp only [J1O, c1, c2, decide_false, Bool.false_eq_true, if_false, Jjd h2, Option.bind_some]
theorem Jmd {n : Nat} (h1 : 1 ≤ n) (h2 : n ≤ 64) : J3Z (n : Int) = some (⟨List.replicate n ⟨0, 0, 0⟩⟩, 0) := by
  have c1 : ¬ (n : Int) < 1 := by omega
  have c2 : ¬ (n : Int) > 64 := by omega
  simp only [J3Z, c1, c2, decide_false, Bool.false_eq_true, if_false, Jjd h2, Option.bind_some]
theorem JnE {n : Nat} (h1 : 1 ≤ n) (h2 : n ≤ 64) : J9l ⟨List.replicate n ⟨0, 0, 0⟩⟩ := ⟨by simpa using h1, by simpa using h2, Jkm n⟩
theorem Jnv (x : T_api_Index) (h : x.Rows.length ≤ 64) : J2D x x = some true := by
  have e : Jah x x 0 = some true := by
    refine Jem (f := fun s => J5i x x s) (l := x.Rows) (by omega) (fun k hk => ?_) ?_
    · have e1 : ((k : Nat) : Int) < (x.Rows.length : Int) := by omega
      simp only [J5i, e1, decide_true, if_true, J4q hk, Option.bind_some, beq_self_eq_true, J44 (show k < 1000000 by omega)]
    · have e1 : ¬ ((x.Rows.length : Nat) : Int) < (x.Rows.length : Int) := by omega
      simp only [J5i, e1, decide_false, Bool.false_eq_true, if_false, J8X, Option.map_some]
  simp only [J2D, bne_self_eq_false, Bool.false_eq_true, if_false, e]
theorem Jny {b : T_pagemenddraw_Codes} (hb : J0v b) : ∃ x b', J5Q b = some (x, b') ∧ J0v b' ∧ J9l x ∧ x.Rows.length ≤ 5 ∧ (∀ r ∈ x.Rows, r.LSN < 40) := by
  obtain ⟨n, b1, a1, hb1, n0, n1⟩ := J4T hb (n := 5) (by omega) (by omega)
  obtain ⟨k, rfl⟩ : ∃ k : Nat, n = (k : Int) := ⟨n.toNat, by omega⟩
  have e0 : IntKind.wrap .i64 (1 + (k : Int)) = ((k + 1 : Nat) : Int) := by rw [J0G (by omega) (by omega)]; omega
  have e00 : ((0 : Int) == 0) = true := rfl
  have loop := J5v (f := fun s : Int × T_pagemenddraw_Codes × List T_api_Row => J3J (⟨([] : List T_api_Row)⟩ : T_api_Index) s.1 s.2.1 s.2.2)
    (fun s => ∃ j : Nat, s.1 = j ∧ j ≤ k + 1 ∧ J0v s.2.1 ∧ s.2.2.length = k + 1 ∧ Jdm s.2.2 ∧ (∀ r ∈ s.2.2, r.LSN < 40)) (fun s => (k + 1 - s.1).toNat)
    (fun o => J0v o.2 ∧ J9l o.1 ∧ o.1.Rows.length ≤ 5 ∧ (∀ r ∈ o.1.Rows, r.LSN < 40)) (fun s ⟨j, hj, h4, hc, hl, hR, h40⟩ => by
    obtain ⟨q, c, l⟩ := s
    simp only at hj hc hl hR h40
    subst hj
    by_cases hlt : j < k + 1
    · left
      have hlt' : j < l.length := by omega
      have e1 : ((j : Nat) : Int) < ((l.length : Nat) : Int) := by omega
      obtain ⟨r2, c2, a2, hc2, p0, p1⟩ := J4T hc (n := 40) (by omega) (by omega)
      obtain ⟨r3, c3, a3, hc3, _, _⟩ := J4T hc2 (n := 3) (by omega) (by omega)
      have hy := hR _ (List.getElem_mem hlt')
      generalize hg : l[j] = y at hy
      have hq : Jcf ⟨r2, y.Image, y.ImageLSN⟩ := ⟨p0, by show r2 ≤ _; omega, hy.i0, hy.i1, hy.m0, hy.m1, hy.im⟩
      by_cases h0 : r3 = 0
      · have d : (r3 == 0) = true := by simpa using h0
        obtain ⟨r4, c4, a4, hc4, q0, q1⟩ := J4T hc3 (n := 4) (by omega) (by omega)
        obtain ⟨r5, c5, a5, hc5, t0, t1⟩ := J4T hc4 (n := 40) (by omega) (by omega)
        have e2 : IntKind.wrap .i64 (1 + r4) = 1 + r4 := J0G (by omega) (by omega)
        refine ⟨(((j + 1 : Nat) : Int), c5, l.set j ⟨r2, 1 + r4, r5⟩), ?_, ⟨j + 1, rfl, by omega, hc5, by simpa using hl, JhX hR ⟨p0, by show r2 ≤ _; omega, by show 0 ≤ 1 + r4; omega, by show 1 + r4 ≤ _; omega, t0, by show r5 ≤ _; omega, fun h => by have h' : 1 + r4 = 0 := h; omega⟩, fun r hr => ?_⟩, by simp; omega⟩
        · simp only [J3J, e1, decide_true, if_true, a2, a3, a4, a5, Option.bind_some, J4q hlt', hg, d, Int.toNat_natCast, Jn9 hlt', Jn9 (l := l.set j _) (show j < _ by simpa using hlt'), List.set_set, e2, J5I, J44 (show j < 1000000 by omega)]
        · rcases List.mem_or_eq_of_mem_set hr with h1 | rfl
          · exact h40 _ h1
          · exact p1
      · have d : (r3 == 0) = false := by simpa using h0
        refine ⟨(((j + 1 : Nat) : Int), c3, l.set j ⟨r2, y.Image, y.ImageLSN⟩), ?_, ⟨j + 1, rfl, by omega, hc3, by simpa using hl, JhX hR hq, fun r hr => ?_⟩, by simp; omega⟩
        · simp only [J3J, e1, decide_true, if_true, a2, a3, Option.bind_some, J4q hlt', hg, d, Bool.false_eq_true, if_false, Int.toNat_natCast, J5I, J44 (show j < 1000000 by omega)]
        · rcases List.mem_or_eq_of_mem_set hr with h1 | rfl
          · exact h40 _ h1
          · exact p1
    · right
      have e1 : ¬ ((j : Nat) : Int) < ((l.length : Nat) : Int) := by omega
      exact ⟨(⟨l⟩, c), by simp only [J3J, e1, decide_false, Bool.false_eq_true, if_false, J8s, Option.map_some], hc, ⟨by show 1 ≤ l.length; omega, by show l.length ≤ 64; omega, hR⟩, by show l.length ≤ 5; omega, h40⟩)
    (0, b1, List.replicate (k + 1) ⟨0, 0, 0⟩) ⟨0, rfl, by omega, hb1, by simp, Jkm _, fun r hr => by
      obtain rfl := (List.mem_replicate.1 hr).2
      decide⟩
  obtain ⟨⟨x, b'⟩, hr, h1, h2, h3, h5⟩ := loop
  refine ⟨x, b', ?_, h1, h2, h3, h5⟩
  unfold J5Q
  simp only [a1, Option.bind_some, e0, Jmd (n := k + 1) (by omega) (by omega), e00, if_true]
  exact hr
def JcV (r : T_api_Row) : List UInt8 := J0R r.LSN 8 ++ (J0R r.Image 8 ++ J0R r.ImageLSN 8)
def J8Y (l : List T_api_Row) : List UInt8 := (l.map JcV).flatten
def Jjt (x : T_api_Index) : List UInt8 := J0R (x.Rows.length : Int) 2 ++ J8Y x.Rows
theorem Jqe (r : T_api_Row) : (JcV r).length = 24 := by simp [JcV, J2b]
theorem Jcu : ∀ l : List T_api_Row, (J8Y l).length = 24 * l.length
  | [] => rfl
  | r :: l => by
    have := Jcu l
    unfold J8Y at this ⊢
    simp only [List.map_cons, List.flatten_cons, List.length_append, Jqe, this, List.length_cons]
    omega
theorem Jkd (a b : List T_api_Row) : J8Y (a ++ b) = J8Y a ++ J8Y b := by simp [J8Y]
theorem Jk0 (r : T_api_Row) : J8Y [r] = JcV r := by simp [J8Y]
theorem Jqh (x : T_api_Index) : (Jjt x).length = 2 + 24 * x.Rows.length := by simp [Jjt, Jcu, J2b]
theorem Jkl {α : Type} {l : List α} {j : Nat} (h : j < l.length) : l.take (j + 1) = l.take j ++ [l[j]] := by
  rw [List.take_add_one, List.getElem?_eq_getElem h]; rfl
theorem Jlj {x : T_api_Index} (h : J9l x) : J1K x = some (Jjt x, 0) := by
  have n1 := h.n1; have n2 := h.n2
  have p0 : J45 [] ((x.Rows.length : Nat) : Int) 2 = some (J0R ((x.Rows.length : Nat) : Int) 2) := Jg1 [] _ (k := 2) (by omega) (by omega) (by simp)
  obtain ⟨o, ho, rfl⟩ := J5v (f := fun s : List UInt8 × Int => J2t x.Rows (x.Rows.length : Int) s.1 s.2)
    (fun s => ∃ j : Nat, s.2 = j ∧ j ≤ x.Rows.length ∧ s.1 = J0R (x.Rows.length : Int) 2 ++ J8Y (x.Rows.take j)) (fun s => (x.Rows.length - s.2).toNat) (fun o => o = (Jjt x, 0)) (fun s ⟨j, hj, h4, hs⟩ => by
    obtain ⟨l, q⟩ := s
    simp only at hj hs
    subst hj
    by_cases hlt : j < x.Rows.length
    · left
      have e1 : ((j : Nat) : Int) < (x.Rows.length : Int) := by omega
      have hl : l.length ≤ 2000 := by
        rw [hs, List.length_append, J2b, Jcu, List.length_take]; omega
      have a1 : J45 l x.Rows[j].LSN 8 = some (l ++ J0R x.Rows[j].LSN 8) := Jg1 _ _ (k := 8) (by omega) (by omega) (by omega)
      have a2 : J45 (l ++ J0R x.Rows[j].LSN 8) x.Rows[j].Image 8 = some (l ++ J0R x.Rows[j].LSN 8 ++ J0R x.Rows[j].Image 8) := Jg1 _ _ (k := 8) (by omega) (by omega) (by rw [List.length_append, J2b]; omega)
      have a3 : J45 (l ++ J0R x.Rows[j].LSN 8 ++ J0R x.Rows[j].Image 8) x.Rows[j].ImageLSN 8 = some (l ++ J0R x.Rows[j].LSN 8 ++ J0R x.Rows[j].Image 8 ++ J0R x.Rows[j].ImageLSN 8) := Jg1 _ _ (k := 8) (by omega) (by omega) (by rw [List.length_append, List.length_append, J2b, J2b]; omega)
      refine ⟨(l ++ JcV x.Rows[j], ((j + 1 : Nat) : Int)), ?_, ⟨j + 1, rfl, by omega, ?_⟩, by simp; omega⟩
      · simp only [J2t, e1, decide_true, if_true, J4q hlt, Option.bind_some, a1, a2, a3, J44 (show j < 1000000 by omega)]
        simp only [JcV, List.append_assoc]
      · show l ++ JcV x.Rows[j] = _
        rw [Jkl hlt, Jkd, Jk0, hs, List.append_assoc]
    · right
      have e1 : ¬ ((j : Nat) : Int) < (x.Rows.length : Int) := by omega
      refine ⟨(l, 0), by simp only [J2t, e1, decide_false, Bool.false_eq_true, if_false, J65, Option.map_some], ?_⟩
      rw [hs, List.take_of_length_le (by omega)]; rfl) (J0R (x.Rows.length : Int) 2, 0) ⟨0, rfl, by omega, by simp [J8Y]⟩
  simp only [J1K, JgO h, Option.bind_some, if_true, p0]
  exact ho
theorem get_at {s pre post : List UInt8} {n at_ : Int} {k : Nat} (hs : s = pre ++ (J0R n k ++ post)) (ha : at_ = (pre.length : Int)) (h1 : 1 ≤ k) (h8 : k ≤ 8) (h0 : 0 ≤ n) (hn : n.toNat < 2 ^ (8 * k)) (hn2 : n < 2 ^ 63) (hl : s.length ≤ 1000) :
    J0Q s at_ (k : Int) = some (n, 0) := by
  obtain ⟨m, rfl⟩ : ∃ m : Nat, n = (m : Int) := ⟨n.toNat, by omega⟩
  subst hs ha
  exact Jse pre post h1 h8 (by simpa using hn) (by omega) hl
theorem Jrn {l : List T_api_Row} {r : T_api_Row} (h : l.length ≤ 1000) : JcE 24 l [r] = some (l ++ [r]) := by
  have e : J5E (l.length + [r].length) 24 = true := by
    simp only [J5E, List.length_cons, List.length_nil]
    simp; omega
  unfold JcE
  rw [if_pos e]
end Go.Am
end
section
namespace Go.Am
set_option maxRecDepth 16000
theorem JdQ {l : List T_api_Row} (h : l.length ≤ 1000) : J1b l = some l := by
  have e : (2 * l.length + 512) * 24 ≤ 281474976710656 := by omega
  unfold J1b
  rw [if_pos e]
def Jb7 (n ref : Int) (k : Nat) : J3 := ⟨n, 7, 0, 0, 0, ref, ⟨(k : Int), 0, ⟨false, []⟩, ⟨false, []⟩⟩, []⟩
theorem Jmq {n ref : Int} {k : Nat} (h1 : 1 ≤ n) (h2 : n ≤ 1099511627776) (r0 : 0 ≤ ref) (r1 : ref < n) (hk : k < 64) : J2C (Jb7 n ref k) = some true := by
  have c1 : ¬ n < 1 := by omega
  have c2 : ¬ n > 1099511627776 := by omega
  have c3 : (0 : Int) < n := by omega
  have c4 : (k : Int) ≥ 0 := by omega
  have c5 : (k : Int) < 64 := by omega
  have c6 : ref ≥ 0 := r0
  simp [J2C, Jb7, c1, c2, J2N, c3, r0, r1, J5P, J4R, J5Z, J5Y, J0W, J4e, c5]
def Jcd (ref : Int) (r : T_api_Row) : T_api_Row := ⟨Jf4 r.LSN ref, r.Image, r.ImageLSN⟩
theorem Jnb {α : Type} {l : List α} {k : Nat} (h : k < l.length) (f : α → α) : l.set k (f l[k]) = l.modify k f := by
  apply List.ext_getElem?
  intro j
  rw [List.getElem?_modify]
  by_cases hj : k = j
  · subst hj
    rw [List.getElem?_set_self h, List.getElem?_eq_getElem h]; simp
  · rw [List.getElem?_set_ne hj]; simp [hj]
theorem Jpo {r : T_api_Row} {ref : Int} (h : Jcf r) (r0 : 0 ≤ ref) (r1 : ref ≤ 1099511627776) : Jcf (Jcd ref r) := by
  have e : 0 ≤ Jf4 r.LSN ref ∧ Jf4 r.LSN ref ≤ 1099511627776 := by
    have := h.l0; have := h.l1
    unfold Jf4
    split <;> omega
  exact ⟨e.1, e.2, h.i0, h.i1, h.m0, h.m1, h.im⟩
theorem Jt2 {x : T_api_Index} (h : J9l x) {k : Nat} (hk : k < x.Rows.length) {f : T_api_Row → T_api_Row} (hf : ∀ r, Jcf r → Jcf (f r)) : J9l ⟨x.Rows.modify k f⟩ := by
  refine ⟨by simpa using h.n1, by simpa using h.n2, ?_⟩
  show Jdm (x.Rows.modify k f)
  rw [← Jnb hk]
  exact JhX h.rows (hf _ (h.rows _ (List.getElem_mem hk)))
theorem JqP {x : T_api_Index} {k : Nat} (hk : k < x.Rows.length) : J1h x (k : Int) = some true := by
  have c1 : (k : Int) ≥ 0 := by omega
  have c2 : (k : Int) < ((x.Rows.length : Nat) : Int) := by omega
  simp only [J1h, c1, c2, decide_true, if_true]
theorem Jn8 {x : T_api_Index} (h : J9l x) {n ref : Int} {k : Nat} (h1 : 1 ≤ n) (h2 : n ≤ 1099511627776) (r0 : 0 ≤ ref) (r1 : ref < n) (hk : k < x.Rows.length) :
    J0V x (Jb7 n ref k) = some (⟨x.Rows.modify k (Jcd ref)⟩, 0) := by
  have h64 := h.n2
  have a1 := Jmq h1 h2 r0 r1 (k := k) (by omega)
  have a2 : J1h x (Jb7 n ref k).Change.Page = some true := JqP hk
  have a3 : J07 x (Jb7 n ref k).Change.Page (Jb7 n ref k) = some ⟨x.Rows.modify k (Jcd ref)⟩ := by
    show J07 x (k : Int) (Jb7 n ref k) = _
    have e : J3R x.Rows[k] (Jb7 n ref k) = some (Jcd ref x.Rows[k]) := rfl
    simp only [J07, JdQ (show x.Rows.length ≤ 1000 by omega), Option.bind_some, J4q hk, e, Int.toNat_natCast, Jnb hk]
  have d : ((Jb7 n ref k).Kind != 7) = false := rfl
  simp only [J0V, JgO h, a1, d, a2, a3, Option.bind_some, if_true, Bool.false_eq_true, if_false]
theorem Jmh : J5O = some true := by
  have z := JnE (n := 2) (by omega) (by omega)
  have a1 : J1O 2 = some (⟨List.replicate 2 ⟨0, 0, 0⟩⟩, 0) := JoX (n := 2) (by omega) (by omega)
  have a2 := Jn8 z (n := 9) (ref := 5) (k := 1) (by omega) (by omega) (by omega) (by omega) (by simp)
  have z2 := Jt2 z (k := 1) (by simp) (f := Jcd 5) (fun r hr => Jpo hr (by omega) (by omega))
  have a3 := Jn8 z2 (n := 10) (ref := 3) (k := 1) (by omega) (by omega) (by omega) (by omega) (by simp)
  have e : (List.modify (List.modify (List.replicate 2 (⟨0, 0, 0⟩ : T_api_Row)) 1 (Jcd 5)) 1 (Jcd 3)) = [⟨0, 0, 0⟩, ⟨5, 0, 0⟩] := by decide +kernel
  rw [e] at a3
  have d0 : ((0 : Int) == 0) = true := rfl
  have d1 : ((([(⟨0, 0, 0⟩ : T_api_Row), ⟨5, 0, 0⟩].length : Nat) : Int) == 2) = true := rfl
  have d2 : idx [(⟨0, 0, 0⟩ : T_api_Row), ⟨5, 0, 0⟩] 1 = some ⟨5, 0, 0⟩ := rfl
  unfold J5O
  simp only [a1, Option.bind_some]
  have a2' : J0V (⟨List.replicate 2 ⟨0, 0, 0⟩⟩ : T_api_Index) (⟨9, 7, 0, 0, 0, 5, (⟨1, 0, (⟨false, ([] : List UInt8)⟩ : Jm), (⟨false, ([] : List UInt8)⟩ : Jm)⟩ : Jk), ([] : List UInt8)⟩ : J3) = _ := a2
  rw [a2']
  simp only [Option.bind_some]
  have a3' : J0V (⟨(List.replicate 2 (⟨0, 0, 0⟩ : T_api_Row)).modify 1 (Jcd 5)⟩ : T_api_Index) (⟨10, 7, 0, 0, 0, 3, (⟨1, 0, (⟨false, ([] : List UInt8)⟩ : Jm), (⟨false, ([] : List UInt8)⟩ : Jm)⟩ : Jk), ([] : List UInt8)⟩ : J3) = _ := a3
  rw [a3']
  simp only [Option.bind_some, d0, if_true, d1, d2]
  rfl
end Go.Am
end
section
namespace Go.Am
set_option maxRecDepth 16000
theorem JjS {α ρ : Type} {f : Int → Option (Int ⊕ ρ)} {l : List α} (p : α → Bool) (hit : Nat → ρ) (out : ρ) (hl : l.length < 1000000)
    (h1 : ∀ (k : Nat) (h : k < l.length), f (k : Int) = some (if p l[k] = true then .inr (hit k) else .inl ((k + 1 : Nat) : Int))) (h2 : f (l.length : Int) = some (.inr out)) :
    J00 f 0 = some (match l.findIdx? p with
      | some k => hit k
      | none => out) := by
  have key : ∀ (n k : Nat), k + n = l.length → J00 f (k : Int) = some (match (l.drop k).findIdx? p with
      | some j => hit (k + j)
      | none => out) := by
    intro n
    induction n with
    | zero =>
      intro k hk
      obtain rfl : k = l.length := by omega
      rw [J7O h2]
      simp
    | succ n ih =>
      intro k hk
      have hlt : k < l.length := by omega
      have e := h1 k hlt
      rw [List.drop_eq_getElem_cons hlt, List.findIdx?_cons]
      by_cases hp : p l[k] = true
      · rw [if_pos hp] at e
        rw [J7O e, if_pos hp]
        rfl
      · rw [if_neg hp] at e
        rw [J9N e, ih (k + 1) (by omega), if_neg hp]
        cases (l.drop (k + 1)).findIdx? p with
        | none => rfl
        | some j => simp only [Option.map_some]; congr 2; omega
  have := key l.length 0 (by omega)
  simpa using this
theorem Jqd {α ρ : Type} {f : Int → Option (Int ⊕ ρ)} {l : List α} (q : α → Bool) (bad out : ρ) (hl : l.length < 1000000)
    (h1 : ∀ (k : Nat) (h : k < l.length), f (k : Int) = some (if q l[k] = true then .inl ((k + 1 : Nat) : Int) else .inr bad)) (h2 : f (l.length : Int) = some (.inr out)) :
    J00 f 0 = some (if l.all q = true then out else bad) := by
  have := JjS (f := f) (l := l) (fun x => !q x) (fun _ => bad) out hl (fun k h => by
    rw [h1 k h]
    cases q l[k] <;> rfl) h2
  rw [this]
  cases h : l.findIdx? (fun x => !q x) with
  | none =>
    rw [List.findIdx?_eq_none_iff] at h
    have : l.all q = true := List.all_eq_true.2 fun x hx => by simpa using h x hx
    rw [this]; rfl
  | some k =>
    obtain ⟨hk, h3, _⟩ := List.findIdx?_eq_some_iff_getElem.1 h
    have : l.all q ≠ true := fun h4 => by
      have := List.all_eq_true.1 h4 _ (List.getElem_mem hk)
      rw [this] at h3; cases h3
    rw [if_neg this]
theorem Jhw {ρ : Type} (c : Bool) (a b : ρ) : (if c = true then some a else some b) = some (if c = true then a else b) := by cases c <;> rfl
end Go.Am
end
section
namespace Go.Am
set_option maxRecDepth 16000
def Tot {ρ : Type} (o : Option ρ) (Q : ρ → Prop) : Prop := ∃ r, o = some r ∧ Q r
theorem Tot.bind {α ρ : Type} {o : Option α} {f : α → Option ρ} {Q : α → Prop} {R : ρ → Prop} (h : Tot o Q) (h2 : ∀ r, Q r → Tot (f r) R) : Tot (o.bind f) R := by
  obtain ⟨r, rfl, hq⟩ := h
  exact h2 r hq
theorem Tot.some {ρ : Type} {r : ρ} {Q : ρ → Prop} (h : Q r) : Tot (some r) Q := ⟨r, rfl, h⟩
theorem Tot.eq {α ρ : Type} {o : Option α} {f : α → Option ρ} {v : α} {R : ρ → Prop} (h : o = Option.some v) (h2 : Tot (f v) R) : Tot (o.bind f) R := by
  subst h; exact h2
theorem Tot.ite {ρ : Type} {c : Bool} {a b : Option ρ} {Q : ρ → Prop} (h1 : c = true → Tot a Q) (h2 : c = false → Tot b Q) : Tot (if c = true then a else b) Q := by
  cases c with
  | true => exact h1 rfl
  | false => exact h2 rfl
theorem Tot.both {ρ : Type} {c : Bool} {a b : Option ρ} {Q : ρ → Prop} (h1 : Tot a Q) (h2 : Tot b Q) : Tot (if c = true then a else b) Q := .ite (fun _ => h1) fun _ => h2
theorem Tot.mono {ρ : Type} {o : Option ρ} {Q R : ρ → Prop} (h : Tot o Q) (h2 : ∀ r, Q r → R r) : Tot o R := by
  obtain ⟨r, e, hq⟩ := h
  exact ⟨r, e, h2 r hq⟩
theorem Tot.map {α ρ : Type} {o : Option α} {f : α → ρ} {Q : α → Prop} {R : ρ → Prop} (h : Tot o Q) (h2 : ∀ r, Q r → R (f r)) : Tot (Option.map f o) R := by
  obtain ⟨r, rfl, hq⟩ := h
  exact ⟨f r, rfl, h2 r hq⟩
abbrev Drw {α : Type} (o : Option (α × T_pagemenddraw_Codes)) (Q : α → Prop) : Prop := Tot o fun r => J0v r.2 ∧ Q r.1
theorem JsQ {α : Type} {o : Option (α × T_pagemenddraw_Codes)} {Q : α → Prop} (h : ∃ x b', o = some (x, b') ∧ J0v b' ∧ Q x) : Drw o Q := by
  obtain ⟨x, b', rfl, h1, h2⟩ := h
  exact ⟨_, rfl, h1, h2⟩
theorem Jj7 {α : Type} {o : Option (α × T_pagemenddraw_Codes)} (h : ∃ x b', o = some (x, b') ∧ J0v b') : Drw o fun _ => True := by
  obtain ⟨x, b', rfl, h1⟩ := h
  exact ⟨_, rfl, h1, trivial⟩
section
variable {b : T_pagemenddraw_Codes} (hb : J0v b)
include hb
theorem J22 {n : Int} (h1 : 1 ≤ n) (h2 : n ≤ 256) : Drw (Js b n) fun r => 0 ≤ r ∧ r < n := by
  obtain ⟨r, b', e, h3, h4, h5⟩ := J4T hb h1 h2
  exact ⟨_, e, h3, h4, h5⟩
theorem JiU {n : Int} (h1 : 1 ≤ n) (h2 : n ≤ 65536) : Drw (Js b n) fun r => 0 ≤ r ∧ r < n := by
  obtain ⟨r, b', e, h3, h4, h5⟩ := JqF hb h1 h2
  exact ⟨_, e, h3, h4, h5⟩
theorem Jo2 : Drw (J2s b) fun _ => True := Jj7 (Jqn hb)
theorem JoT : Drw (J2T b) JjA := JsQ (JoW hb)
theorem Jtb : Drw (J1Y b) fun _ => True := by
  unfold J1Y
  refine .bind (J22 hb (by omega) (by omega)) fun r1 ⟨h1, q1⟩ => .bind (J22 h1 (by omega) (by omega)) fun r2 ⟨h2, q2⟩ => .both ?_ ?_
  · exact .bind (J22 h2 (by omega) (by omega)) fun r3 ⟨h3, q3⟩ => Jj7 (JfX h3 q3.1 (by omega))
  · exact Jj7 (JfX h2 q1.1 (by omega))
theorem JpR : Drw (J3V b) fun _ => True := by
  unfold J3V
  exact .bind (J22 hb (by omega) (by omega)) fun r1 ⟨h1, q1⟩ => .bind (J22 h1 (by omega) (by omega)) fun r2 ⟨h2, q2⟩ =>
    .bind (JoT h2) fun r3 ⟨h3, _⟩ => .bind (JoT h3) fun r4 ⟨h4, _⟩ => .some ⟨h4, trivial⟩
theorem Jpn {s : List UInt8} (hs : s.length ≤ 60000) : Drw (J3P b s) fun t => t.length ≤ s.length + 1 := by
  unfold J3P
  by_cases h0 : s.length = 0
  · have d1 : (((s.length : Nat) : Int) == 0) = true := by rw [h0]; rfl
    rw [d1, if_pos rfl]
    exact .bind (J22 hb (by omega) (by omega)) fun r ⟨h, _⟩ => .some ⟨h, by simp [toStr]⟩
  · have d1 : (((s.length : Nat) : Int) == 0) = false := by simpa using h0
    rw [d1, if_neg (by decide)]
    refine .bind (JiU hb (by omega) (by omega)) fun r1 ⟨h1, q1⟩ => ?_
    obtain ⟨r, b1⟩ := r1
    simp only at h1 q1 ⊢
    obtain ⟨k, rfl⟩ : ∃ k : Nat, r = (k : Int) := ⟨r.toNat, by omega⟩
    have hk : k < s.length := by omega
    have f1 := JoL s (b := k) (by omega)
    have f2 : J7D s (some (IntKind.wrap .i64 ((k : Int) + 1))) none = some (s.drop (k + 1)) := by
      rw [J44 (by omega)]; exact JpF s (a := k + 1) (by omega)
    have f3 : J9U (s.take k) (s.drop (k + 1)) = some (s.take k ++ s.drop (k + 1)) := Jdn (by simp only [List.length_take, List.length_drop]; omega)
    have f4 : ∀ v : Int, J9U s (toStr [v]) = some (s ++ toStr [v]) := fun v => Jdn (by simp [toStr]; omega)
    have f5 : ∀ v : Int, J9U (s.take k) (toStr [v]) = some (s.take k ++ toStr [v]) := fun v => Jdn (by simp [toStr]; omega)
    have f6 : ∀ v : Int, J9U (s.take k ++ toStr [v]) (s.drop (k + 1)) = some (s.take k ++ toStr [v] ++ s.drop (k + 1)) := fun v => Jdn (by simp [toStr]; omega)
    simp only [f1, f2, f3, f4, f5, f6, Jg8 hk, Option.bind_some]
    refine .bind (J22 h1 (by omega) (by omega)) fun r2 ⟨h2, q2⟩ => .both ?_ (.both ?_ ?_)
    · exact .some ⟨h2, by simp; omega⟩
    · exact .bind (J22 h2 (by omega) (by omega)) fun r3 ⟨h3, _⟩ => .some ⟨h3, by simp [toStr]⟩
    · exact .bind (J22 h2 (by omega) (by omega)) fun r3 ⟨h3, _⟩ => .some ⟨h3, by simp [toStr]; omega⟩
theorem JrC : Drw (J4k b) fun _ => True := by
  have e0 : ∀ n c {b}, J0v b → ∀ x y, Drw (J3s n c b x y) fun _ => True := by
    intro n c b hb x y
    unfold J3s
    refine .both ?_ (.both ?_ ?_)
    · exact .bind (Jtb hb) fun r ⟨h, _⟩ => .some ⟨h, trivial⟩
    · exact .bind (J22 hb (by omega) (by omega)) fun r ⟨h, _⟩ => .bind (J22 h (by omega) (by omega)) fun r2 ⟨h2, _⟩ => .some ⟨h2, trivial⟩
    · exact .some ⟨hb, trivial⟩
  have e1 : ∀ n c {b}, J0v b → ∀ x y, Drw (J2p n c b x y) fun _ => True := by
    intro n c b hb x y
    unfold J2p
    refine .both ?_ (.both (e0 _ _ hb _ _) (e0 _ _ hb _ _))
    exact .bind (J22 hb (by omega) (by omega)) fun r ⟨h, _⟩ => .bind (J22 h (by omega) (by omega)) fun r2 ⟨h2, _⟩ => .some ⟨h2, trivial⟩
  have e2 : ∀ n c {b}, J0v b → ∀ x y, Drw (J3t n c b x y) fun _ => True := by
    intro n c b hb x y
    unfold J3t
    refine .both ?_ (.both (e1 _ _ hb _ _) (.both (e1 _ _ hb _ _) (e1 _ _ hb _ _)))
    refine .bind (J22 hb (by omega) (by omega)) fun r ⟨h, _⟩ => .bind (J22 h (by omega) (by omega)) fun r2 ⟨h2, q2⟩ => .bind (J22 h2 (by omega) (by omega)) fun r3 ⟨h3, _⟩ => .bind (JpR h3) fun r4 ⟨h4, _⟩ => .both ?_ ?_
    · have w : IntKind.wrap .i64 (1 + r2.1) = 1 + r2.1 := J0G (by omega) (by omega)
      rw [w]
      exact .bind (J22 h4 (by omega) (by omega)) fun r5 ⟨h5, _⟩ => .some ⟨h5, trivial⟩
    · exact .some ⟨h4, trivial⟩
  unfold J4k
  exact .bind (J22 hb (by omega) (by omega)) fun r ⟨h, _⟩ => .bind (J22 h (by omega) (by omega)) fun r2 ⟨h2, _⟩ => .both (e2 _ _ h2 _ _) (e2 _ _ h2 _ _)
end
end Go.Am
end
section
namespace Go.Am
set_option maxRecDepth 16000
def J9n (n : Int) : Bool := decide (0 ≤ n) && decide (n ≤ 1099511627776)
def JbM (r : T_api_Row) : Bool := J9n r.LSN && (J9n r.Image && (J9n r.ImageLSN && !(r.Image == 0 && r.ImageLSN != 0)))
def JbK (x : T_api_Index) : Bool := decide (1 ≤ x.Rows.length) && (decide (x.Rows.length ≤ 64) && x.Rows.all JbM)
theorem JlT (n : Int) : J0t n = some (J9n n) := by
  unfold J0t J9n
  by_cases h : 0 ≤ n
  · have h' : n ≥ 0 := h
    simp only [h, h', decide_true, if_true, Bool.true_and]
  · have h' : ¬ n ≥ 0 := h
    simp only [h, h', decide_false, Bool.false_eq_true, if_false, Bool.false_and]
theorem Jn0 (n : Int) : J4w n = some (J9n n) := JlT n
theorem JsF (r : T_api_Row) : J1n r = some (!JbM r) := by
  unfold J1n JbM
  simp only [JlT, Option.bind_some]
  cases J9n r.LSN <;> cases J9n r.Image <;> cases J9n r.ImageLSN <;> cases (r.Image == 0) <;> cases (r.ImageLSN != 0) <;> rfl
theorem Jbm (x : T_api_Index) : J0J x = some (JbK x) := by
  unfold J0J JbK
  by_cases h1 : 1 ≤ x.Rows.length
  · have c1 : ((x.Rows.length : Nat) : Int) ≥ 1 := by omega
    by_cases h2 : x.Rows.length ≤ 64
    · have c2 : ((x.Rows.length : Nat) : Int) ≤ 64 := by omega
      have e : JY x.Rows = _ := JjS (f := fun s => JA x.Rows (x.Rows.length : Int) s) (l := x.Rows) (fun r => !JbM r) (fun k => (k : Int)) (-1) (by omega)
        (fun k hk => by
          have e1 : ((k : Nat) : Int) < (x.Rows.length : Int) := by omega
          simp only [JA, e1, decide_true, if_true, J4q hk, Option.bind_some, JsF, Jhw, J44 (show k < 1000000 by omega)])
        (by
          have e1 : ¬ ((x.Rows.length : Nat) : Int) < (x.Rows.length : Int) := by omega
          simp only [JA, e1, decide_false, Bool.false_eq_true, if_false, J04, Option.map_some])
      simp only [c1, c2, h1, h2, decide_true, if_true, JT, e, Option.bind_some, Bool.true_and]
      congr 1
      cases h : x.Rows.findIdx? (fun r => !JbM r) with
      | none =>
        rw [List.findIdx?_eq_none_iff] at h
        have : x.Rows.all JbM = true := List.all_eq_true.2 fun r hr => by simpa using h r hr
        rw [this]; rfl
      | some k =>
        obtain ⟨hk, h3, _⟩ := List.findIdx?_eq_some_iff_getElem.1 h
        have : x.Rows.all JbM = false := by
          rw [List.all_eq_false]
          exact ⟨_, List.getElem_mem hk, by simpa using h3⟩
        rw [this]
        have : ((k : Nat) : Int) ≥ 0 := by omega
        simp only [this, decide_true, Bool.not_true]
    · have c2 : ¬ ((x.Rows.length : Nat) : Int) ≤ 64 := by omega
      simp only [c1, c2, h1, h2, decide_true, decide_false, if_true, Bool.false_eq_true, if_false, Bool.true_and, Bool.false_and]
  · have c1 : ¬ ((x.Rows.length : Nat) : Int) ≥ 1 := by omega
    simp only [c1, h1, decide_false, Bool.false_eq_true, if_false, Bool.false_and]
theorem Jaj (x : T_api_Index) : J2B x = some (JbK x) := by
  unfold J2B JbK
  by_cases h1 : 1 ≤ x.Rows.length
  · have c1 : ¬ ((x.Rows.length : Nat) : Int) < 1 := by omega
    by_cases h2 : x.Rows.length ≤ 64
    · have c2 : ¬ ((x.Rows.length : Nat) : Int) > 64 := by omega
      have e : J9T x 0 = _ := Jqd (f := fun s => J4A x s) (l := x.Rows) JbM false true (by omega)
        (fun k hk => by
          have e1 : ((k : Nat) : Int) < (x.Rows.length : Int) := by omega
          simp only [J4A, e1, decide_true, if_true, J4q hk, Option.bind_some, Jn0, J44 (show k < 1000000 by omega)]
          generalize x.Rows[k] = r
          unfold JbM
          cases J9n r.LSN <;> cases J9n r.Image <;> cases J9n r.ImageLSN <;> cases (r.Image == 0) <;> cases (r.ImageLSN != 0) <;> rfl)
        (by
          have e1 : ¬ ((x.Rows.length : Nat) : Int) < (x.Rows.length : Int) := by omega
          simp only [J4A, e1, decide_false, Bool.false_eq_true, if_false, J8t, Option.map_some])
      simp only [c1, c2, h1, h2, decide_true, decide_false, Bool.false_eq_true, if_false, e, Bool.true_and]
      cases x.Rows.all JbM <;> rfl
    · have c2 : ((x.Rows.length : Nat) : Int) > 64 := by omega
      simp only [c1, c2, h1, h2, decide_true, decide_false, if_true, Bool.false_eq_true, if_false, Bool.true_and, Bool.false_and]
  · have c1 : ((x.Rows.length : Nat) : Int) < 1 := by omega
    simp only [c1, h1, decide_true, decide_false, if_true, Bool.false_and]
theorem Jg9 {x : T_api_Index} (h : JbK x = true) : J9l x := by
  simp only [JbK, Bool.and_eq_true, decide_eq_true_eq, List.all_eq_true] at h
  refine ⟨h.1, h.2.1, fun r hr => ?_⟩
  have h3 := h.2.2 r hr
  simp only [JbM, J9n, Bool.and_eq_true, decide_eq_true_eq] at h3
  refine ⟨h3.1.1, h3.1.2, h3.2.1.1, h3.2.1.2, h3.2.2.1.1, h3.2.2.1.2, fun e => ?_⟩
  have h4 := h3.2.2.2
  simpa [e] using h4
theorem JpD (c : Jm) : J2S c = J1q c := by
  unfold J2S J1q
  first
  | rfl
  | (cases c.Set <;> simp <;> (repeat' split) <;> simp_all)
theorem Jk9 (c : Jm) : ∃ b, J1q c = some b := by
  unfold J1q
  repeat' split
  all_goals exact ⟨_, rfl⟩
theorem JdI (c : Jk) : J3l c = J2H c := by
  unfold J3l J2H J58
  simp only [JpD]
  by_cases h1 : c.Page ≥ 0
  · by_cases h2 : c.Page < 64
    · simp only [h1, h2, decide_true, if_true, Option.bind_some]
    · simp only [h1, h2, decide_true, decide_false, if_true, Bool.false_eq_true, if_false, Option.bind_some]
  · simp only [h1, decide_false, Bool.false_eq_true, if_false, Option.bind_some]
theorem JcJ (c : Jk) : ∃ b, J2H c = some b := by
  obtain ⟨b1, e1⟩ := Jk9 c.Before
  obtain ⟨b2, e2⟩ := Jk9 c.After
  unfold J2H J58
  simp only [e1, e2, Option.bind_some, Jhw]
  exact ⟨_, rfl⟩
end Go.Am
end
section
namespace Go.Am
set_option maxRecDepth 16000
set_option maxHeartbeats 1000000
def txB (n : Int) : Bool := decide (1 ≤ n) && decide (n ≤ 1073741824)
theorem Jm8 (n : Int) : (if decide (n ≥ 1) = true then decide (n ≤ 1073741824) else false) = txB n := by
  unfold txB
  by_cases h : 1 ≤ n
  · have h' : n ≥ 1 := h
    simp only [h, h', decide_true, if_true, Bool.true_and]
  · have h' : ¬ n ≥ 1 := h
    simp only [h, h', decide_false, Bool.false_eq_true, if_false, Bool.false_and]
theorem Jha (n : Int) : (n < 1 ∧ txB n = false) ∨ (¬ n < 1 ∧ n > 1073741824 ∧ txB n = false) ∨ (¬ n < 1 ∧ ¬ n > 1073741824 ∧ txB n = true) := by
  by_cases h1 : n < 1
  · exact .inl ⟨h1, by simp [txB]; omega⟩
  · by_cases h2 : n > 1073741824
    · exact .inr (.inl ⟨h1, h2, by simp [txB]; omega⟩)
    · exact .inr (.inr ⟨h1, h2, by simp [txB]; omega⟩)
def Kd (e : J3) (k : Option Bool) : Prop := ∃ r, J0w e = some r ∧ k = some (r.2 && (r.1 == e))
section
variable (lsn tx ptx pp ref : Int) (ch : Jk) (blob : List UInt8)
theorem Jbc : (blob = [] ∧ (blob == []) = true) ∨ (blob ≠ [] ∧ (blob == []) = false) := by
  cases blob with
  | nil => exact .inl ⟨rfl, rfl⟩
  | cons a l => exact .inr ⟨by simp, rfl⟩
theorem J6b (n m : Int) : (n = m ∧ (n == m) = true ∧ (n != m) = false) ∨ (n ≠ m ∧ (n == m) = false ∧ (n != m) = true) := by
  by_cases h : n = m
  · exact .inl ⟨h, by simpa using h, by simpa using h⟩
  · exact .inr ⟨h, by simpa using h, by simpa using h⟩
theorem kd1 : Kd ⟨lsn, 1, tx, ptx, pp, ref, ch, blob⟩ (J76 ⟨lsn, 1, tx, ptx, pp, ref, ch, blob⟩) := by
  obtain ⟨cb, hcb⟩ := JcJ ch
  have hrb : J3l ch = some cb := (JdI _).trans hcb
  have hs : J0w ⟨lsn, 1, tx, ptx, pp, ref, ch, blob⟩ = some (⟨lsn, 1, tx, ptx, pp, 0, ch, []⟩, cb && txB tx) := by
    simp only [J0w, J1d, J1N, hrb, show ((1 : Int) == 1) = true from rfl, show ((1 : Int) == 2) = false from rfl, if_true, Bool.false_eq_true, if_false, Option.bind_some, ← Jm8]
    cases cb <;> by_cases h : tx ≥ 1 <;> simp [h]
  refine ⟨_, hs, ?_⟩
  have he : ((⟨lsn, 1, tx, ptx, pp, 0, ch, []⟩ : J3) == ⟨lsn, 1, tx, ptx, pp, ref, ch, blob⟩) = ((ref == 0) && (blob == [])) := by
    rw [Bool.eq_iff_iff]
    simp only [beq_iff_eq, J3.mk.injEq, Bool.and_eq_true, true_and]
    constructor
    · rintro ⟨h1, h2⟩; exact ⟨h1.symm, h2.symm⟩
    · rintro ⟨h1, h2⟩; exact ⟨h1.symm, h2.symm⟩
  rw [he]
  simp only [J76, J5J, J8r, J0W, hcb, Option.bind_some]
  rcases Jha tx with ⟨a, b⟩ | ⟨a, a', b⟩ | ⟨a, a', b⟩ <;> rcases J6b ref 0 with ⟨c, d1, d2⟩ | ⟨c, d1, d2⟩ <;> rcases Jbc blob with ⟨f, g⟩ | ⟨f, g⟩ <;> cases cb <;> simp [a, b, d1, d2, f, *]
theorem kd2 : Kd ⟨lsn, 2, tx, ptx, pp, ref, ch, blob⟩ (J60 ⟨lsn, 2, tx, ptx, pp, ref, ch, blob⟩) ∨ ptx < 0 := by
  by_cases hp : ptx < 0
  · exact .inr hp
  left
  obtain ⟨cb, hcb⟩ := JcJ ch
  have hrb : J3l ch = some cb := (JdI _).trans hcb
  have hs : J0w ⟨lsn, 2, tx, ptx, pp, ref, ch, blob⟩ = some (⟨lsn, 2, tx, ptx, pp, ref, ch, []⟩, cb && (decide (ptx > 0) && (decide (ref ≥ 1) && (decide (ref ≤ ptx) && txB tx)))) := by
    simp only [J0w, J1d, J1N, hrb, show ((2 : Int) == 1) = false from rfl, show ((2 : Int) == 2) = true from rfl, if_true, Bool.false_eq_true, if_false, Option.bind_some, ← Jm8]
    cases cb <;> by_cases h : tx ≥ 1 <;> by_cases h2 : ptx > 0 <;> by_cases h3 : ref ≥ 1 <;> by_cases h4 : ref ≤ ptx <;> simp [h, h2, h3, h4]
  refine ⟨_, hs, ?_⟩
  have he : ((⟨lsn, 2, tx, ptx, pp, ref, ch, []⟩ : J3) == ⟨lsn, 2, tx, ptx, pp, ref, ch, blob⟩) = (blob == []) := by
    rw [Bool.eq_iff_iff]
    simp only [beq_iff_eq, J3.mk.injEq, true_and]
    exact eq_comm
  rw [he]
  simp only [J60, J4N, J7w, J5g, hcb, Option.bind_some]
  have hq : (ptx == 0) = !decide (ptx > 0) := by
    by_cases h : ptx = 0
    · subst h; rfl
    · have : ptx > 0 := by omega
      simp [h, this]
  rw [hq]
  rcases Jha tx with ⟨a, b⟩ | ⟨a, a', b⟩ | ⟨a, a', b⟩ <;> rcases Jbc blob with ⟨f, g⟩ | ⟨f, g⟩ <;> by_cases h2 : ptx > 0 <;> by_cases h3 : ref ≥ 1 <;> by_cases h4 : ref ≤ ptx <;> cases cb <;> simp [a, b, f, h2, h3, h4, *]
theorem Jo4 (k : Int) (hk : k = 3 ∨ k = 4 ∨ k = 5) : Kd ⟨lsn, k, tx, ptx, pp, ref, ch, blob⟩ (J3E ⟨lsn, k, tx, ptx, pp, ref, ch, blob⟩) ∨ ptx < 0 := by
  by_cases hp : ptx < 0
  · exact .inr hp
  left
  have hs : J0w ⟨lsn, k, tx, ptx, pp, ref, ch, blob⟩ = some (⟨lsn, k, tx, ptx, 0, 0, ⟨0, 0, ⟨false, []⟩, ⟨false, []⟩⟩, []⟩, decide (ptx > 0) && txB tx) := by
    have h1 : (k == 1) = false := by rcases hk with rfl | rfl | rfl <;> rfl
    have h2 : (k == 2) = false := by rcases hk with rfl | rfl | rfl <;> rfl
    have h3 : (k == 3) = true ∨ (k == 3) = false ∧ (k == 4) = true ∨ (k == 3) = false ∧ (k == 4) = false ∧ (k == 5) = true := by
      rcases hk with rfl | rfl | rfl
      · exact .inl rfl
      · exact .inr (.inl ⟨rfl, rfl⟩)
      · exact .inr (.inr ⟨rfl, rfl, rfl⟩)
    rcases h3 with h3 | ⟨h3, h4⟩ | ⟨h3, h4, h5⟩
    all_goals
      simp only [J0w, J1d, J1v, h1, h2, h3, *, if_true, Bool.false_eq_true, if_false, ← Jm8]
      by_cases h : tx ≥ 1 <;> by_cases h7 : tx ≤ 1073741824 <;> by_cases h6 : ptx > 0 <;> simp [h, h6, h7]
  refine ⟨_, hs, ?_⟩
  have he : ((⟨lsn, k, tx, ptx, 0, 0, ⟨0, 0, ⟨false, []⟩, ⟨false, []⟩⟩, []⟩ : J3) == ⟨lsn, k, tx, ptx, pp, ref, ch, blob⟩) = ((pp == 0) && ((ref == 0) && ((ch == ⟨0, 0, ⟨false, []⟩, ⟨false, []⟩⟩) && (blob == [])))) := by
    rw [Bool.eq_iff_iff]
    simp only [beq_iff_eq, J3.mk.injEq, Bool.and_eq_true, true_and]
    constructor
    · rintro ⟨h1, h2, h3, h4⟩; exact ⟨h1.symm, h2.symm, h3.symm, h4.symm⟩
    · rintro ⟨h1, h2, h3, h4⟩; exact ⟨h1.symm, h2.symm, h3.symm, h4.symm⟩
  rw [he]
  simp only [J3E, J4O, J7u, J0W, J5z, Option.bind_some]
  have hq : (ptx == 0) = !decide (ptx > 0) := by
    by_cases h : ptx = 0
    · subst h; rfl
    · have : ptx > 0 := by omega
      simp [h, this]
  rw [hq]
  generalize (ch == ⟨0, 0, ⟨false, []⟩, ⟨false, []⟩⟩) = cb
  rcases Jha tx with ⟨a, b⟩ | ⟨a, a', b⟩ | ⟨a, a', b⟩ <;> rcases Jbc blob with ⟨f, g⟩ | ⟨f, g⟩ <;> by_cases h2 : ptx > 0 <;> rcases J6b ref 0 with ⟨c, d1, d2⟩ | ⟨c, d1, d2⟩ <;> rcases J6b pp 0 with ⟨u, v1, v2⟩ | ⟨u, v1, v2⟩ <;> cases cb <;> simp [a, b, f, h2, d1, d2, v1, v2, *]
theorem Jss (k : Int) (hk : k = 6 ∨ k = 8) : Kd ⟨lsn, k, tx, ptx, pp, ref, ch, blob⟩ (J4P ⟨lsn, k, tx, ptx, pp, ref, ch, blob⟩) := by
  have hs : J0w ⟨lsn, k, tx, ptx, pp, ref, ch, blob⟩ = some (⟨lsn, k, 0, 0, 0, 0, ⟨0, 0, ⟨false, []⟩, ⟨false, []⟩⟩, blob⟩, decide (((List.length blob : Nat) : Int) ≤ 8192)) := by
    rcases hk with rfl | rfl <;> rfl
  refine ⟨_, hs, ?_⟩
  have he : ((⟨lsn, k, 0, 0, 0, 0, ⟨0, 0, ⟨false, []⟩, ⟨false, []⟩⟩, blob⟩ : J3) == ⟨lsn, k, tx, ptx, pp, ref, ch, blob⟩) = ((tx == 0) && ((ptx == 0) && ((pp == 0) && ((ref == 0) && (ch == ⟨0, 0, ⟨false, []⟩, ⟨false, []⟩⟩))))) := by
    rw [Bool.eq_iff_iff]
    simp only [beq_iff_eq, J3.mk.injEq, Bool.and_eq_true, true_and, and_true]
    constructor
    · rintro ⟨h1, h2, h3, h4, h5⟩; exact ⟨h1.symm, h2.symm, h3.symm, h4.symm, h5.symm⟩
    · rintro ⟨h1, h2, h3, h4, h5⟩; exact ⟨h1.symm, h2.symm, h3.symm, h4.symm, h5.symm⟩
  rw [he]
  simp only [J4P, J7y, J7s, J0W, J5z, Option.bind_some, Bool.false_eq_true, if_false, if_true]
  generalize (ch == ⟨0, 0, ⟨false, []⟩, ⟨false, []⟩⟩) = cb
  rcases J6b tx 0 with ⟨a, b1, b2⟩ | ⟨a, b1, b2⟩ <;> rcases J6b ptx 0 with ⟨a', c1, c2⟩ | ⟨a', c1, c2⟩ <;> rcases J6b pp 0 with ⟨u, v1, v2⟩ | ⟨u, v1, v2⟩ <;> rcases J6b ref 0 with ⟨c, d1, d2⟩ | ⟨c, d1, d2⟩ <;> by_cases h2 : ((List.length blob : Nat) : Int) ≤ 8192 <;> cases cb <;> simp [b1, b2, c1, c2, d1, d2, v1, v2, h2]
theorem kd7 : Kd ⟨lsn, 7, tx, ptx, pp, ref, ch, blob⟩ (J4R ⟨lsn, 7, tx, ptx, pp, ref, ch, blob⟩) := by
  obtain ⟨cp, cs, c1, c2⟩ := ch
  have hs : J0w ⟨lsn, 7, tx, ptx, pp, ref, ⟨cp, cs, c1, c2⟩, blob⟩ = some (⟨lsn, 7, 0, 0, 0, ref, ⟨cp, 0, ⟨false, []⟩, ⟨false, []⟩⟩, []⟩, decide (cp ≥ 0) && decide (cp < 64)) := by
    simp only [J0w, J1d, J1v, J2f, show ((7 : Int) == 1) = false from rfl, show ((7 : Int) == 2) = false from rfl, show ((7 : Int) == 3) = false from rfl, show ((7 : Int) == 4) = false from rfl, show ((7 : Int) == 5) = false from rfl, show ((7 : Int) == 6) = false from rfl, show ((7 : Int) == 7) = true from rfl, show ((7 : Int) == 8) = false from rfl, Bool.false_eq_true, if_false, if_true]
    by_cases h : cp ≥ 0 <;> simp [h]
  refine ⟨_, hs, ?_⟩
  have he : ((⟨lsn, 7, 0, 0, 0, ref, ⟨cp, 0, ⟨false, []⟩, ⟨false, []⟩⟩, []⟩ : J3) == ⟨lsn, 7, tx, ptx, pp, ref, ⟨cp, cs, c1, c2⟩, blob⟩) = ((tx == 0) && ((ptx == 0) && ((pp == 0) && (((⟨cp, cs, c1, c2⟩ : Jk) == ⟨cp, 0, ⟨false, []⟩, ⟨false, []⟩⟩) && (blob == []))))) := by
    rw [Bool.eq_iff_iff]
    simp only [beq_iff_eq, J3.mk.injEq, Bool.and_eq_true, true_and]
    constructor
    · rintro ⟨h1, h2, h3, h4, h5⟩; exact ⟨h1.symm, h2.symm, h3.symm, h4.symm, h5.symm⟩
    · rintro ⟨h1, h2, h3, h4, h5⟩; exact ⟨h1.symm, h2.symm, h3.symm, h4.symm, h5.symm⟩
  rw [he]
  simp only [J4R, J5Z, J5Y, J0W, J4e, Option.bind_some, Bool.false_eq_true, if_false, if_true]
  generalize ((⟨cp, cs, c1, c2⟩ : Jk) == ⟨cp, 0, ⟨false, []⟩, ⟨false, []⟩⟩) = cb
  rcases J6b tx 0 with ⟨a, b1, b2⟩ | ⟨a, b1, b2⟩ <;> rcases J6b ptx 0 with ⟨a', c1, c2⟩ | ⟨a', c1, c2⟩ <;> rcases J6b pp 0 with ⟨u, v1, v2⟩ | ⟨u, v1, v2⟩ <;> rcases Jbc blob with ⟨f, g⟩ | ⟨f, g⟩ <;> by_cases h2 : cp ≥ 0 <;> cases cb <;> simp [b1, b2, c1, c2, v1, v2, f, g, h2]
end
theorem Jfn (e : J3) : ∃ r, J0w e = some r := by
  obtain ⟨lsn, k, tx, ptx, pp, ref, ch, blob⟩ := e
  obtain ⟨cb, hcb⟩ := JcJ ch
  have hrb : J3l ch = some cb := (JdI _).trans hcb
  have h0 : ∀ b x y z, ∃ r, J1N b x y z = some r := fun b x y z => by
    unfold J1N; split
    · split <;> exact ⟨_, rfl⟩
    · exact ⟨_, rfl⟩
  have h1 : ∀ n b x y z, ∃ r, J2f n b x y z = some r := fun n b x y z => by
    unfold J2f J5G; split
    · exact ⟨_, rfl⟩
    · split
      · split <;> exact ⟨_, rfl⟩
      · exact ⟨_, rfl⟩
  have h2 : ∀ n b x y z, ∃ r, J1v n b x y z = some r := fun n b x y z => by
    unfold J1v; split
    · split
      · split <;> exact ⟨_, rfl⟩
      · exact ⟨_, rfl⟩
    · split <;> exact h1 ..
  have h3 : ∀ n b y z, ∃ r, J1d n b ⟨lsn, k, tx, ptx, pp, ref, ch, blob⟩ y z = some r := fun n b y z => by
    unfold J1d
    simp only [hrb, Option.bind_some]
    split
    · split
      · split
        · split
          · split <;> exact h0 ..
          · exact h0 ..
        · exact h0 ..
      · exact h0 ..
    · split
      · exact h2 ..
      · split <;> exact h2 ..
  unfold J0w
  split <;> exact h3 ..
theorem JcG (e : J3) : J2E e = J2C e := by
  obtain ⟨r, hr⟩ := Jfn e
  have hs : J2E e = some (r.2 && ((r.1 == e) && (decide (1 ≤ e.LSN) && (decide (e.LSN ≤ 1099511627776) && ((decide (0 ≤ e.PrevTx) && decide (e.PrevTx < e.LSN)) && ((decide (0 ≤ e.PrevPage) && decide (e.PrevPage < e.LSN)) && (decide (0 ≤ e.Ref) && decide (e.Ref < e.LSN)))))))) := by
    have hb : ∀ n m : Int, J2O n m = some (decide (0 ≤ n) && decide (n < m)) := fun n m => by
      unfold J2O
      by_cases h : 0 ≤ n
      · have h' : n ≥ 0 := h
        simp only [h, h', decide_true, if_true, Bool.true_and]
      · have h' : ¬ n ≥ 0 := h
        simp only [h, h', decide_false, Bool.false_eq_true, if_false, Bool.false_and]
    have g1 : decide (e.LSN ≥ 1) = decide (1 ≤ e.LSN) := rfl
    unfold J2E
    simp only [hr, Option.bind_some, hb, g1]
    cases r.2 <;> cases (r.1 == e) <;> cases decide (1 ≤ e.LSN) <;> cases decide (e.LSN ≤ 1099511627776) <;> cases (decide (0 ≤ e.PrevTx) && decide (e.PrevTx < e.LSN)) <;> cases (decide (0 ≤ e.PrevPage) && decide (e.PrevPage < e.LSN)) <;> rfl
  have hb : ∀ n : Int, J2N n e = some (decide (0 ≤ n) && decide (n < e.LSN)) := fun n => by
    unfold J2N
    by_cases h : 0 ≤ n
    · have h' : n ≥ 0 := h
      simp only [h, h', decide_true, if_true, Bool.true_and]
    · have h' : ¬ n ≥ 0 := h
      simp only [h, h', decide_false, Bool.false_eq_true, if_false, Bool.false_and]
  rw [hs]
  unfold J2C
  simp only [hb, Option.bind_some]
  by_cases b1 : e.LSN < 1
  · have : ¬ 1 ≤ e.LSN := by omega
    simp [b1, this]
  by_cases b2 : e.LSN > 1099511627776
  · have : ¬ e.LSN ≤ 1099511627776 := by omega
    simp [b1, b2, this]
  have c1 : 1 ≤ e.LSN := by omega
  have c2 : e.LSN ≤ 1099511627776 := by omega
  simp only [b1, b2, c1, c2, decide_true, decide_false, Bool.false_eq_true, if_false, Bool.true_and]
  by_cases k1 : e.Kind < 1
  · have hk : r.2 = false := by
      have e0 : ∀ m : Int, 1 ≤ m → (e.Kind == m) = false := fun m hm => by
        have : e.Kind ≠ m := by omega
        simpa using this
      simp only [J0w, J1d, J1v, J2f, J5G, e0 1 (by omega), e0 2 (by omega), e0 3 (by omega), e0 4 (by omega), e0 5 (by omega), e0 6 (by omega), e0 7 (by omega), e0 8 (by omega), Bool.false_eq_true, if_false] at hr
      rw [← Option.some.inj hr]
    simp only [k1, hk, decide_true, if_true, Bool.false_and]
  by_cases k8 : e.Kind > 8
  · have hk : r.2 = false := by
      have e0 : ∀ m : Int, m ≤ 8 → (e.Kind == m) = false := fun m hm => by
        have : e.Kind ≠ m := by omega
        simpa using this
      simp only [J0w, J1d, J1v, J2f, J5G, e0 1 (by omega), e0 2 (by omega), e0 3 (by omega), e0 4 (by omega), e0 5 (by omega), e0 6 (by omega), e0 7 (by omega), e0 8 (by omega), Bool.false_eq_true, if_false] at hr
      rw [← Option.some.inj hr]
    simp only [k1, k8, hk, decide_true, decide_false, Bool.false_eq_true, if_false, if_true, Bool.false_and]
  simp only [k1, k8, decide_false, Bool.false_eq_true, if_false]
  by_cases p0 : ¬ 0 ≤ e.PrevTx
  · simp [p0]
  have p1 : 0 ≤ e.PrevTx := by omega
  cases hp : (decide (0 ≤ e.PrevTx) && decide (e.PrevTx < e.LSN)) with
  | false => simp
  | true =>
  cases hq : (decide (0 ≤ e.PrevPage) && decide (e.PrevPage < e.LSN)) with
  | false => simp
  | true =>
  cases hw : (decide (0 ≤ e.Ref) && decide (e.Ref < e.LSN)) with
  | false => simp
  | true =>
  simp only [if_true, Bool.and_true, J5P, Option.bind_some]
  obtain ⟨lsn, k, tx, ptx, pp, ref, ch, blob⟩ := e
  simp only at hr k1 k8 p1 ⊢
  have fin : ∀ q, Kd ⟨lsn, k, tx, ptx, pp, ref, ch, blob⟩ q → some (r.2 && (r.1 == ⟨lsn, k, tx, ptx, pp, ref, ch, blob⟩)) = q := by
    rintro q ⟨r', h1, rfl⟩
    rw [hr] at h1
    injection h1 with h1
    rw [h1]
  have hc : k = 1 ∨ k = 2 ∨ k = 3 ∨ k = 4 ∨ k = 5 ∨ k = 6 ∨ k = 7 ∨ k = 8 := by omega
  rcases hc with rfl | rfl | rfl | rfl | rfl | rfl | rfl | rfl
  · exact fin _ (kd1 ..)
  · exact fin _ ((kd2 lsn tx ptx pp ref ch blob).resolve_right (by omega))
  · exact fin _ ((Jo4 lsn tx ptx pp ref ch blob 3 (by omega)).resolve_right (by omega))
  · exact fin _ ((Jo4 lsn tx ptx pp ref ch blob 4 (by omega)).resolve_right (by omega))
  · exact fin _ ((Jo4 lsn tx ptx pp ref ch blob 5 (by omega)).resolve_right (by omega))
  · exact fin _ (Jss lsn tx ptx pp ref ch blob 6 (by omega))
  · exact fin _ (kd7 ..)
  · exact fin _ (Jss lsn tx ptx pp ref ch blob 8 (by omega))
theorem JoV (e : J3) : ∃ b, J2C e = some b := by
  rw [← JcG]
  obtain ⟨r, hr⟩ := Jfn e
  unfold J2E J2O
  simp only [hr, Option.bind_some, Jhw]
  exact ⟨_, rfl⟩
theorem JnQ {e : J3} (h : J2C e = some true) (hk : e.Kind = 7) : 0 ≤ e.Change.Page ∧ e.Change.Page < 64 := by
  obtain ⟨lsn, k, tx, ptx, pp, ref, ch, blob⟩ := e
  simp only at hk
  subst hk
  rw [← JcG] at h
  obtain ⟨r, hr⟩ := Jfn ⟨lsn, 7, tx, ptx, pp, ref, ch, blob⟩
  unfold J2E at h
  simp only [hr, Option.bind_some] at h
  have h2 : r.2 = true := by
    cases h3 : r.2 with
    | true => rfl
    | false => rw [h3] at h; simp at h
  simp only [J0w, J1d, J1v, J2f, show ((7 : Int) == 1) = false from rfl, show ((7 : Int) == 2) = false from rfl, show ((7 : Int) == 3) = false from rfl, show ((7 : Int) == 4) = false from rfl, show ((7 : Int) == 5) = false from rfl, show ((7 : Int) == 6) = false from rfl, show ((7 : Int) == 7) = true from rfl, show ((7 : Int) == 8) = false from rfl, Bool.false_eq_true, if_false, if_true] at hr
  by_cases h4 : ch.Page ≥ 0
  · simp only [h4, decide_true, if_true] at hr
    rw [← Option.some.inj hr] at h2
    exact ⟨h4, by simpa using h2⟩
  · simp only [h4, decide_false, Bool.false_eq_true, if_false] at hr
    rw [← Option.some.inj hr] at h2
    cases h2
end Go.Am
end
section
namespace Go.Am
set_option maxRecDepth 16000
set_option maxHeartbeats 2000000
theorem Jm5 {l : List T_api_Row} (h : l.length ≤ 1000) : Jjz 24 l = some l := by
  have e : J5E l.length 24 = true := by
    simp only [J5E]
    simp; omega
  unfold Jjz
  rw [if_pos e]
theorem Jn1 {x : T_api_Index} (h : x.Rows.length ≤ 64) {k : Nat} (hk : k < x.Rows.length) (r : T_api_Row) : J5p x (k : Int) r = some ⟨x.Rows.set k r⟩ := by
  simp only [J5p, Jm5 (show x.Rows.length ≤ 1000 by omega), Option.bind_some, J4q hk, Int.toNat_natCast]
theorem Jl7 (x : T_api_Index) (n : Int) : J1h x n = some (decide (0 ≤ n) && decide (n < ((x.Rows.length : Nat) : Int))) := by
  unfold J1h
  by_cases h : 0 ≤ n
  · have h' : n ≥ 0 := h
    simp only [h, h', decide_true, if_true, Bool.true_and]
  · have h' : ¬ n ≥ 0 := h
    simp only [h, h', decide_false, Bool.false_eq_true, if_false, Bool.false_and]
theorem JrX (x : T_api_Index) (z : J3) : ∃ r, J0V x z = some r ∧ J6A x z = some r ∧ r.1.Rows.length ≤ 64 := by
  obtain ⟨b, hb⟩ := JoV z
  have hb' : J2E z = some b := (JcG z).trans hb
  unfold J0V J6A
  simp only [Jbm, Jaj, hb, hb', Option.bind_some]
  cases hv : JbK x with
  | false => exact ⟨_, rfl, rfl, by simp⟩
  | true =>
    have hx := Jg9 hv
    have h64 := hx.n2
    simp only [if_true]
    cases b with
    | false => exact ⟨_, rfl, rfl, by simp⟩
    | true =>
      simp only [if_true]
      by_cases hk : z.Kind = 7
      · have d : (z.Kind != 7) = false := by simpa using hk
        have hp := JnQ hb hk
        simp only [d, Bool.false_eq_true, if_false, Jl7, Option.bind_some]
        obtain ⟨k, hk'⟩ : ∃ k : Nat, z.Change.Page = (k : Int) := ⟨z.Change.Page.toNat, by omega⟩
        rw [hk']
        by_cases hlt : k < x.Rows.length
        · have c1 : (0 : Int) ≤ (k : Int) := by omega
          have c2 : (k : Int) < ((x.Rows.length : Nat) : Int) := by omega
          have c3 : ¬ (k : Int) ≥ ((x.Rows.length : Nat) : Int) := by omega
          have e : J3R x.Rows[k] z = some ⟨Jf4 x.Rows[k].LSN z.Ref, x.Rows[k].Image, x.Rows[k].ImageLSN⟩ := rfl
          simp only [c1, c2, c3, decide_true, decide_false, Bool.and_true, if_true, Bool.false_eq_true, if_false, J4q hlt, Option.bind_some, Jn1 h64 hlt, J07, JdQ (show x.Rows.length ≤ 1000 by omega), e, Int.toNat_natCast]
          exact ⟨_, rfl, rfl, by simpa using h64⟩
        · have c2 : ¬ (k : Int) < ((x.Rows.length : Nat) : Int) := by omega
          have c3 : (k : Int) ≥ ((x.Rows.length : Nat) : Int) := by omega
          simp only [c2, c3, decide_true, decide_false, Bool.and_false, if_true, Bool.false_eq_true, if_false]
          exact ⟨_, rfl, rfl, by simp⟩
      · have d : (z.Kind != 7) = true := by simpa using hk
        simp only [d, if_true]
        exact ⟨_, rfl, rfl, h64⟩
theorem Jmp (x : T_api_Index) (id image lsn : Int) : ∃ r, J2n x id image lsn = some r ∧ J4c x id image lsn = some r ∧ r.1.Rows.length ≤ 64 := by
  unfold J2n J4c
  simp only [Jbm, Jaj, Jl7, JlT, Jn0, Option.bind_some]
  cases hv : JbK x with
  | false => exact ⟨_, rfl, rfl, by simp⟩
  | true =>
    have hx := Jg9 hv
    have h64 := hx.n2
    simp only [if_true]
    by_cases h0 : 0 ≤ id
    · obtain ⟨k, rfl⟩ : ∃ k : Nat, id = (k : Int) := ⟨id.toNat, by omega⟩
      have c0 : ¬ (k : Int) < 0 := by omega
      by_cases hlt : k < x.Rows.length
      · have c2 : (k : Int) < ((x.Rows.length : Nat) : Int) := by omega
        have c3 : ¬ (k : Int) ≥ ((x.Rows.length : Nat) : Int) := by omega
        have e : J3z x.Rows[k] image lsn = some ⟨x.Rows[k].LSN, image, lsn⟩ := rfl
        simp only [h0, c0, c2, c3, decide_true, decide_false, Bool.and_true, if_true, Bool.false_eq_true, if_false, J4q hlt, Option.bind_some, Jn1 h64 hlt, J0p, JdQ (show x.Rows.length ≤ 1000 by omega), e, Int.toNat_natCast]
        cases J9n image <;> cases J9n lsn <;> cases (image == 0) <;> cases (lsn != 0) <;> exact ⟨_, rfl, rfl, by simp <;> omega⟩
      · have c2 : ¬ (k : Int) < ((x.Rows.length : Nat) : Int) := by omega
        have c3 : (k : Int) ≥ ((x.Rows.length : Nat) : Int) := by omega
        simp only [c0, c2, c3, decide_true, decide_false, Bool.and_false, if_true, Bool.false_eq_true, if_false]
        exact ⟨_, rfl, rfl, by simp⟩
    · have c0 : id < 0 := by omega
      simp only [h0, c0, decide_true, decide_false, Bool.false_and, if_true, Bool.false_eq_true, if_false]
      exact ⟨_, rfl, rfl, by simp⟩
theorem Jhs {x : T_api_Index} (h : J9l x) (hv : JbK x = true) : J3u x = some (Jjt x, 0) := by
  have n1 := h.n1; have n2 := h.n2
  have p0 : J2h [] ((x.Rows.length : Nat) : Int) 2 = some (J0R ((x.Rows.length : Nat) : Int) 2) := Jbi [] _ (k := 2) (by omega) (by omega) (by simp)
  obtain ⟨o, ho, rfl⟩ := J5v (f := fun s : List UInt8 × Int => J4d x s.1 s.2)
    (fun s => ∃ j : Nat, s.2 = j ∧ j ≤ x.Rows.length ∧ s.1 = J0R (x.Rows.length : Int) 2 ++ J8Y (x.Rows.take j)) (fun s => (x.Rows.length - s.2).toNat) (fun o => o = (Jjt x, 0)) (fun s ⟨j, hj, h4, hs⟩ => by
    obtain ⟨l, q⟩ := s
    simp only at hj hs
    subst hj
    by_cases hlt : j < x.Rows.length
    · left
      have e1 : ((j : Nat) : Int) < (x.Rows.length : Int) := by omega
      have hl : l.length ≤ 2000 := by
        rw [hs, List.length_append, J2b, Jcu, List.length_take]; omega
      have a1 : J2h l x.Rows[j].LSN 8 = some (l ++ J0R x.Rows[j].LSN 8) := Jbi _ _ (k := 8) (by omega) (by omega) (by omega)
      have a2 : J2h (l ++ J0R x.Rows[j].LSN 8) x.Rows[j].Image 8 = some (l ++ J0R x.Rows[j].LSN 8 ++ J0R x.Rows[j].Image 8) := Jbi _ _ (k := 8) (by omega) (by omega) (by rw [List.length_append, J2b]; omega)
      have a3 : J2h (l ++ J0R x.Rows[j].LSN 8 ++ J0R x.Rows[j].Image 8) x.Rows[j].ImageLSN 8 = some (l ++ J0R x.Rows[j].LSN 8 ++ J0R x.Rows[j].Image 8 ++ J0R x.Rows[j].ImageLSN 8) := Jbi _ _ (k := 8) (by omega) (by omega) (by rw [List.length_append, List.length_append, J2b, J2b]; omega)
      refine ⟨(l ++ JcV x.Rows[j], ((j + 1 : Nat) : Int)), ?_, ⟨j + 1, rfl, by omega, ?_⟩, by simp; omega⟩
      · simp only [J4d, e1, decide_true, if_true, J4q hlt, Option.bind_some, a1, a2, a3, J44 (show j < 1000000 by omega)]
        simp only [JcV, List.append_assoc]
      · show l ++ JcV x.Rows[j] = _
        rw [Jkl hlt, Jkd, Jk0, hs, List.append_assoc]
    · right
      have e1 : ¬ ((j : Nat) : Int) < (x.Rows.length : Int) := by omega
      refine ⟨(l, 0), by simp only [J4d, e1, decide_false, Bool.false_eq_true, if_false, J80, Option.map_some], ?_⟩
      rw [hs, List.take_of_length_le (by omega)]; rfl) (J0R (x.Rows.length : Int) 2, 0) ⟨0, rfl, by omega, by simp [J8Y]⟩
  simp only [J3u, Jaj, hv, Option.bind_some, if_true, p0]
  exact ho
theorem Joy (x : T_api_Index) : ∃ r, J1K x = some r ∧ J3u x = some r ∧ r.1.length ≤ 1538 := by
  cases hv : JbK x with
  | false =>
    refine ⟨([], 28), ?_, ?_, by simp⟩
    · simp only [J1K, Jbm, hv, Option.bind_some, Bool.false_eq_true, if_false]
    · simp only [J3u, Jaj, hv, Option.bind_some, Bool.false_eq_true, if_false]
  | true =>
    have hx := Jg9 hv
    have h2 := hx.n2
    exact ⟨_, Jlj hx, Jhs hx hv, by rw [Jqh]; omega⟩
theorem Jjv (s : List UInt8) (hs : s.length ≤ 100000) {at_ : Nat} {k : Nat} (h1 : 1 ≤ k) (h8 : k ≤ 8) : ∃ r, J0Q s at_ k = some r := by
  have c1 : ¬ ((k : Int) < 1) := by omega
  have c2 : ¬ ((k : Int) > 8) := by omega
  have c3 : ¬ ((at_ : Int) < 0) := by omega
  unfold J0Q
  simp only [c1, c2, c3, decide_false, Bool.false_eq_true, if_false]
  by_cases c4 : (at_ : Int) > (s.length : Int)
  · exact ⟨(0, 5), by simp only [c4, decide_true, if_true]⟩
  · have e0 : IntKind.wrap .i64 ((s.length : Int) - at_) = (s.length : Int) - at_ := J0G (by omega) (by omega)
    simp only [c4, decide_false, Bool.false_eq_true, if_false, e0]
    by_cases c5 : (s.length : Int) - at_ < k
    · exact ⟨(0, 5), by simp only [c5, decide_true, if_true]⟩
    · simp only [c5, decide_false, Bool.false_eq_true, if_false]
      obtain ⟨r, hr, _⟩ := J5v (f := fun q : Int × Int => J1u s at_ k q.1 q.2) (fun q => ∃ j : Nat, q.2 = j ∧ j ≤ k) (fun q => (k - q.2).toNat) (fun _ => True) (fun q ⟨j, hj, h4⟩ => by
        obtain ⟨x, j'⟩ := q
        simp only at hj
        subst hj
        by_cases hlt : j < k
        · left
          have e1 : ((j : Nat) : Int) < (k : Int) := by omega
          have e2 : IntKind.wrap .i64 ((at_ : Int) + (j : Int)) = ((at_ + j : Nat) : Int) := by rw [J0G (by omega) (by omega)]; omega
          have e3 : IntKind.wrap .i64 (8 * (j : Int)) = ((8 * j : Nat) : Int) := by rw [J0G (by omega) (by omega)]; omega
          have e4 : ∀ z : Int, ∃ y, Jeo .u64 z ((8 * j : Nat) : Int) = some y := fun z => ⟨_, if_neg (by omega)⟩
          obtain ⟨y, e5⟩ := e4 (IntKind.wrap .u64 (((s[at_ + j]).toNat : Nat) : Int))
          exact ⟨⟨_, ((j + 1 : Nat) : Int)⟩, by simp only [J1u, e1, decide_true, if_true, e2, Jg8 (show at_ + j < s.length by omega), Option.bind_some, e3, e5, J44 (show j < 1000000 by omega)]; rfl, ⟨j + 1, rfl, by omega⟩, by simp; omega⟩
        · right
          have e1 : ¬ ((j : Nat) : Int) < (k : Int) := by omega
          exact ⟨_, by simp only [J1u, e1, decide_false, Bool.false_eq_true, if_false, J6R, Option.map_some]; rfl, trivial⟩) (0, 0) ⟨0, rfl, by omega⟩
      exact ⟨r, hr⟩
theorem Jq0 (s : List UInt8) (hs : s.length ≤ 100000) {at_ k : Nat} (h1 : 1 ≤ k) (h8 : k ≤ 4) (ha : at_ ≤ 100000) : ∃ (n : Nat) (e : Int), J0Q s at_ k = some ((n : Int), e) ∧ n < 2 ^ 32 := by
  have a1 : ¬ (k : Int) < 1 := by omega
  have a2 : ¬ (k : Int) > 8 := by omega
  have a3 : ¬ (at_ : Int) < 0 := by omega
  unfold J0Q
  simp only [a1, a2, a3, decide_false, Bool.false_eq_true, if_false]
  by_cases c1 : (at_ : Int) > (s.length : Int)
  · exact ⟨0, 5, by simp only [c1, decide_true, if_true]; rfl, by decide⟩
  · have e0 : IntKind.wrap .i64 ((s.length : Int) - at_) = (s.length : Int) - at_ := J0G (by omega) (by omega)
    by_cases c2 : (s.length : Int) - at_ < k
    · exact ⟨0, 5, by simp only [c1, e0, c2, decide_false, decide_true, Bool.false_eq_true, if_false, if_true]; rfl, by decide⟩
    · simp only [c1, e0, c2, decide_false, Bool.false_eq_true, if_false]
      obtain ⟨r, hr, n, e, rfl, hn⟩ := J5v (f := fun q : Int × Int => J1u s at_ k q.1 q.2) (fun q => ∃ j x : Nat, q.2 = j ∧ q.1 = x ∧ j ≤ k ∧ x < 2 ^ (8 * j)) (fun q => (k - q.2).toNat)
        (fun r => ∃ (n : Nat) (e : Int), r = ((n : Int), e) ∧ n < 2 ^ 32) (fun q ⟨j, x, hj, hx, hjk, hxl⟩ => by
        obtain ⟨x', j'⟩ := q
        simp only at hj hx
        subst hj hx
        by_cases hlt : j < k
        · left
          have e1 : ((j : Nat) : Int) < (k : Int) := by omega
          have e2 : IntKind.wrap .i64 ((at_ : Int) + (j : Int)) = ((at_ + j : Nat) : Int) := by rw [J0G (by omega) (by omega)]; omega
          have e3 : IntKind.wrap .i64 (8 * (j : Int)) = ((8 * j : Nat) : Int) := by rw [J0G (by omega) (by omega)]; omega
          have hlt2 : at_ + j < s.length := by omega
          have hu : (s[at_ + j]).toNat < 256 := UInt8.toNat_lt _
          have e4 : Jeo .u64 (IntKind.wrap .u64 (((s[at_ + j]).toNat : Nat) : Int)) ((8 * j : Nat) : Int) = some (IntKind.wrap .u64 ((((s[at_ + j]).toNat : Nat) : Int) * 2 ^ (8 * j))) := by
            rw [Jan (by omega) (by omega)]
            simp only [Jeo]
            rw [if_neg (by omega)]
            have : min (((8 * j : Nat) : Int)).toNat IntKind.u64.bits = 8 * j := by
              simp only [Int.toNat_natCast]
              exact Nat.min_eq_left (by show 8 * j ≤ 64; omega)
            rw [this]
          have e5 := JoC (x := x) (b := (s[at_ + j]).toNat) (j := j) (by omega) hxl hu
          refine ⟨(((x + (s[at_ + j]).toNat * 2 ^ (8 * j) : Nat) : Int), ((j + 1 : Nat) : Int)), ?_, ⟨j + 1, x + (s[at_ + j]).toNat * 2 ^ (8 * j), rfl, rfl, by omega, ?_⟩, by show ((k : Int) - ((j + 1 : Nat) : Int)).toNat < ((k : Int) - (j : Int)).toNat; omega⟩
          · simp only [J1u, e1, decide_true, if_true, e2, Jg8 hlt2, Option.bind_some, e3, e4, e5, J44 (show j < 1000000 by omega)]
          · have : (s[at_ + j]).toNat * 2 ^ (8 * j) + 2 ^ (8 * j) ≤ 256 * 2 ^ (8 * j) := by
              rw [← Nat.succ_mul]; exact Nat.mul_le_mul_right _ hu
            have e6 : 2 ^ (8 * (j + 1)) = 256 * 2 ^ (8 * j) := by rw [Nat.mul_add, Nat.pow_add, Nat.mul_comm]
            omega
        · right
          obtain rfl : j = k := by omega
          have e1 : ¬ ((j : Nat) : Int) < (j : Int) := by omega
          have h32 : (2 : Nat) ^ (8 * j) ≤ 2 ^ 32 := Nat.pow_le_pow_right (by omega) (by omega)
          refine ⟨((x : Int), 0), ?_, x, 0, rfl, by omega⟩
          simp only [J1u, e1, decide_false, Bool.false_eq_true, if_false, J6R, Option.map_some]
          rw [J0G (by omega) (by omega)]) (0, 0) ⟨0, 0, rfl, rfl, by omega, by decide⟩
      exact ⟨n, e, hr, hn⟩
theorem Jdt (s : List UInt8) (j f : Nat) (hj : j ≤ 1000) (hf : f ≤ 2) : J0e (j : Int) (f : Int) s = (J0Q s ((2 + 24 * j + 8 * f : Nat) : Int) 8).bind fun r => some r.1 := by
  unfold J0e
  have w : IntKind.wrap .i64 ((IntKind.wrap .i64 (2 + (IntKind.wrap .i64 ((j : Int) * 24)))) + (IntKind.wrap .i64 (((f : Nat) : Int) * 8))) = ((2 + 24 * j + 8 * f : Nat) : Int) := by
    rw [J0G (n := (j : Int) * 24) (by omega) (by omega), J0G (n := 2 + (j : Int) * 24) (by omega) (by omega), J0G (n := (f : Int) * 8) (by omega) (by omega), J0G (by omega) (by omega)]
    omega
  rw [w]
theorem JoN (s : List UInt8) (hs : s.length ≤ 3000) : ∃ r, J3b s = some r ∧ J5l s = some r ∧ r.1.Rows.length ≤ 64 := by
  obtain ⟨n, e, hg, hn⟩ := Jq0 s (by omega) (at_ := 0) (k := 2) (by omega) (by omega) (by omega)
  have hg : J0Q s 0 2 = some ((n : Int), e) := hg
  have hg2 : J43 s 0 2 = some ((n : Int), e) := (Jn6 s 0 (k := 2) (by omega) (by omega)).trans hg
  unfold J3b J5l
  simp only [hg, hg2, Option.bind_some]
  by_cases he : e = 0
  · have d : (e != 0) = false := by simpa using he
    have w1 : IntKind.wrap .i64 (2 + (IntKind.wrap .i64 ((n : Int) * 24))) = 2 + (n : Int) * 24 := by
      rw [J0G (n := (n : Int) * 24) (by omega) (by omega), J0G (by omega) (by omega)]
    have w2 : IntKind.wrap .i64 (((s.length : Nat) : Int) - 2) = ((s.length : Nat) : Int) - 2 := J0G (by omega) (by omega)
    have w3 : IntKind.wrap .i64 (24 * (n : Int)) = 24 * (n : Int) := J0G (by omega) (by omega)
    simp only [d, Bool.false_eq_true, if_false, w1, w2, w3]
    by_cases c1 : ((s.length : Nat) : Int) < 2 + (n : Int) * 24
    · have c1' : ((s.length : Nat) : Int) - 2 < 24 * (n : Int) := by omega
      simp only [c1, c1', decide_true, if_true]
      exact ⟨_, rfl, rfl, by simp⟩
    · have c1' : ¬ ((s.length : Nat) : Int) - 2 < 24 * (n : Int) := by omega
      by_cases c2 : ((s.length : Nat) : Int) > 2 + (n : Int) * 24
      · have c2' : ((s.length : Nat) : Int) - 2 > 24 * (n : Int) := by omega
        simp only [c1, c1', c2, c2', decide_true, decide_false, Bool.false_eq_true, if_true, if_false]
        exact ⟨_, rfl, rfl, by simp⟩
      · have c2' : ¬ ((s.length : Nat) : Int) - 2 > 24 * (n : Int) := by omega
        simp only [c1, c1', c2, c2', decide_false, Bool.false_eq_true, if_false]
        have hn2 : n ≤ 125 := by omega
        have tot := J5v (f := fun q : Int × List T_api_Row => J1o (n : Int) s ([] : List T_api_Row) q.1 q.2)
          (fun q => ∃ j : Nat, q.1 = j ∧ j ≤ n ∧ q.2.length = j) (fun q => (n - q.1).toNat) (fun o => o.1.Rows.length ≤ 64) (fun q ⟨j, hj, h4, hl⟩ => by
          obtain ⟨q1, l⟩ := q
          simp only at hj hl
          subst hj
          by_cases hlt : j < n
          · left
            have e1 : ((j : Nat) : Int) < ((n : Nat) : Int) := by omega
            obtain ⟨r0, g0⟩ := Jjv s (by omega) (at_ := 2 + 24 * j + 8 * 0) (k := 8) (by omega) (by omega)
            obtain ⟨r1, g1⟩ := Jjv s (by omega) (at_ := 2 + 24 * j + 8 * 1) (k := 8) (by omega) (by omega)
            obtain ⟨r2, g2⟩ := Jjv s (by omega) (at_ := 2 + 24 * j + 8 * 2) (k := 8) (by omega) (by omega)
            have a0 : J0e (j : Int) 0 s = _ := Jdt s j 0 (by omega) (by omega)
            have a1 : J0e (j : Int) 1 s = _ := Jdt s j 1 (by omega) (by omega)
            have a2 : J0e (j : Int) 2 s = _ := Jdt s j 2 (by omega) (by omega)
            have g0 : J0Q s ((2 + 24 * j + 8 * 0 : Nat) : Int) 8 = some r0 := g0
            have g1 : J0Q s ((2 + 24 * j + 8 * 1 : Nat) : Int) 8 = some r1 := g1
            have g2 : J0Q s ((2 + 24 * j + 8 * 2 : Nat) : Int) 8 = some r2 := g2
            exact ⟨(((j + 1 : Nat) : Int), l ++ [⟨r0.1, r1.1, r2.1⟩]), by simp only [J1o, e1, decide_true, if_true, a0, a1, a2, g0, g1, g2, Option.bind_some, Jrn (show l.length ≤ 1000 by omega), J44 (show j < 1000000 by omega)], ⟨j + 1, rfl, by omega, by simp [hl]⟩, by simp; omega⟩
          · right
            have e1 : ¬ ((j : Nat) : Int) < ((n : Nat) : Int) := by omega
            simp only [J1o, e1, decide_false, Bool.false_eq_true, if_false, J4H, Jbm, Option.bind_some]
            cases hv : JbK ⟨l⟩ with
            | true => exact ⟨_, rfl, (Jg9 hv).n2⟩
            | false => exact ⟨_, rfl, by simp⟩) (0, []) ⟨0, rfl, by omega, rfl⟩
        obtain ⟨o, ho, hq⟩ := tot
        refine ⟨o, ho, ?_, hq⟩
        refine Eq.trans ?_ ho
        refine JgU (f := fun q : Int × List T_api_Row => J4a s (n : Int) ([] : List T_api_Row) q.1 q.2) (g := fun q : Int × List T_api_Row => J1o (n : Int) s ([] : List T_api_Row) q.1 q.2)
          (fun q => ∃ j : Nat, q.1 = j ∧ j ≤ n) (fun q ⟨j, hj, h4⟩ => ?_) (fun q q' ⟨j, hj, h4⟩ h => ?_) ⟨0, rfl, by omega⟩
        · obtain ⟨q1, l⟩ := q
          simp only at hj
          subst hj
          have v0 : IntKind.wrap .i64 (2 + (IntKind.wrap .i64 (24 * (j : Int)))) = ((2 + 24 * j + 8 * 0 : Nat) : Int) := by
            rw [J0G (n := 24 * (j : Int)) (by omega) (by omega), J0G (by omega) (by omega)]; omega
          have v1 : IntKind.wrap .i64 (10 + (IntKind.wrap .i64 (24 * (j : Int)))) = ((2 + 24 * j + 8 * 1 : Nat) : Int) := by
            rw [J0G (n := 24 * (j : Int)) (by omega) (by omega), J0G (by omega) (by omega)]; omega
          have v2 : IntKind.wrap .i64 (18 + (IntKind.wrap .i64 (24 * (j : Int)))) = ((2 + 24 * j + 8 * 2 : Nat) : Int) := by
            rw [J0G (n := 24 * (j : Int)) (by omega) (by omega), J0G (by omega) (by omega)]; omega
          have a0 : J0e (j : Int) 0 s = _ := Jdt s j 0 (by omega) (by omega)
          have a1 : J0e (j : Int) 1 s = _ := Jdt s j 1 (by omega) (by omega)
          have a2 : J0e (j : Int) 2 s = _ := Jdt s j 2 (by omega) (by omega)
          simp only [J4a, J1o, v0, v1, v2, a0, a1, a2, Jn6 s _ (k := 8) (by omega) (by omega), J7Z, J4H, Jaj, Jbm, Option.bind_assoc, Option.bind_some]
        · obtain ⟨q1, l⟩ := q
          simp only at hj
          subst hj
          simp only [J4a] at h
          by_cases hlt : j < n
          · have e1 : ((j : Nat) : Int) < ((n : Nat) : Int) := by omega
            simp only [e1, decide_true, if_true] at h
            obtain ⟨_, _, h⟩ := Option.bind_eq_some_iff.1 h
            obtain ⟨_, _, h⟩ := Option.bind_eq_some_iff.1 h
            obtain ⟨_, _, h⟩ := Option.bind_eq_some_iff.1 h
            obtain ⟨_, _, h⟩ := Option.bind_eq_some_iff.1 h
            injection h with h
            injection h with h
            subst h
            exact ⟨j + 1, J44 (by omega), by omega⟩
          · have e1 : ¬ ((j : Nat) : Int) < ((n : Nat) : Int) := by omega
            simp only [e1, decide_false, Bool.false_eq_true, if_false] at h
            obtain ⟨_, _, h⟩ := Option.map_eq_some_iff.1 h
            cases h
  · have d : (e != 0) = true := by simpa using he
    simp only [d, if_true]
    exact ⟨_, rfl, rfl, by simp⟩
theorem Jt5 (n : Int) : ∃ r, J1O n = some r ∧ J3Z n = some r ∧ r.1.Rows.length ≤ 64 := by
  unfold J1O J3Z
  by_cases h1 : n < 1
  · simp only [h1, decide_true, if_true]
    exact ⟨_, rfl, rfl, by simp⟩
  · by_cases h2 : n > 64
    · simp only [h1, h2, decide_true, decide_false, Bool.false_eq_true, if_true, if_false]
      exact ⟨_, rfl, rfl, by simp⟩
    · obtain ⟨k, rfl⟩ : ∃ k : Nat, n = (k : Int) := ⟨n.toNat, by omega⟩
      simp only [h1, h2, decide_false, Bool.false_eq_true, if_false, Jjd (show k ≤ 64 by omega), Option.bind_some]
      exact ⟨_, rfl, rfl, by simp; omega⟩
end Go.Am
end
section
namespace Go.Am
set_option maxRecDepth 16000
set_option maxHeartbeats 2000000
theorem Js4 {b : T_pagemenddraw_Codes} (hb : J0v b) : Drw (J5Q b) fun x => J9l x ∧ x.Rows.length ≤ 5 := by
  obtain ⟨x, b', e, h1, h2, h3, _⟩ := Jny hb
  exact ⟨_, e, h1, h2, h3⟩
theorem JpH {b : T_pagemenddraw_Codes} (hb : J0v b) {x : T_api_Index} (hx : J9l x) (h5 : x.Rows.length ≤ 5) : Drw (J8j b x) fun y => y.Rows.length ≤ 100 := by
  have n1 := hx.n1
  unfold J8j
  refine .eq (Jm5 (by omega)) (.bind (JiU hb (by omega) (by omega)) fun r1 ⟨h1, q1⟩ => ?_)
  obtain ⟨r, b1⟩ := r1
  simp only at h1 q1 ⊢
  obtain ⟨k, rfl⟩ : ∃ k : Nat, r = (k : Int) := ⟨r.toNat, by omega⟩
  refine .eq (J4q (show k < x.Rows.length by omega)) (.bind (J22 h1 (by omega) (by omega)) fun r2 ⟨h2, q2⟩ => .both ?_ (.both ?_ (.both ?_ (.both ?_ ?_))))
  · exact .bind (Jo2 h2) fun r3 ⟨h3, _⟩ => .eq rfl (.some ⟨h3, by simp; omega⟩)
  · exact .bind (Jo2 h2) fun r3 ⟨h3, _⟩ => .eq rfl (.some ⟨h3, by simp; omega⟩)
  · exact .bind (Jo2 h2) fun r3 ⟨h3, _⟩ => .eq rfl (.some ⟨h3, by simp; omega⟩)
  · refine .bind (J22 h2 (by omega) (by omega)) fun r3 ⟨h3, q3⟩ => ?_
    obtain ⟨m, hm⟩ : ∃ m : Nat, r3.1 = (m : Int) := ⟨r3.1.toNat, by omega⟩
    have w : IntKind.wrap .i64 (60 + r3.1) = ((60 + m : Nat) : Int) := by rw [J0G (by omega) (by omega)]; omega
    have e : (0 : Int) ≤ ((60 + m : Nat) : Int) ∧ ((60 + m : Nat) : Int) ≤ ((60 + m : Nat) : Int) ∧ ((24 : Nat) : Int) * ((60 + m : Nat) : Int) ≤ 281474976710656 ∧ ((60 + m : Nat) : Int) ≤ 281474976710656 := by omega
    have em : mkS 24 ((60 + m : Nat) : Int) ((60 + m : Nat) : Int) (⟨0, 0, 0⟩ : T_api_Row) = some (List.replicate (60 + m) ⟨0, 0, 0⟩) := by
      unfold mkS
      rw [if_pos e, Int.toNat_natCast]
    rw [w]
    have er : J5E (x.Rows.length + (List.replicate (60 + m) (⟨0, 0, 0⟩ : T_api_Row)).length) 24 = true := by
      simp only [J5E, List.length_replicate]
      simp; omega
    refine .eq em (.eq (if_pos er) (.some ⟨h3, ?_⟩))
    simp; omega
  · exact .some ⟨h2, by show x.Rows.length ≤ 100; omega⟩
theorem JcS {α ρ : Type} {f : Int → Option (Int ⊕ ρ)} {l : List α} {Q : ρ → Prop} (hl : l.length < 1000000) (h1 : ∀ (k : Nat) (h : k < l.length), f (k : Int) = some (.inl ((k + 1 : Nat) : Int)))
    (h2 : Tot (f (l.length : Int)) fun r => ∃ o, r = .inr o ∧ Q o) : Tot (J00 f 0) Q := by
  obtain ⟨r, e, o, rfl, hq⟩ := h2
  exact ⟨o, Jem hl h1 e, hq⟩
abbrev Jj5 (k : Int) (o : Option ((Int × T_pagemenddraw_Codes) ⊕ Bool)) : Prop := Tot o fun r => ∃ b, r = .inl (IntKind.wrap .i64 (k + 1), b) ∧ J0v b
section
variable (x3 x4 x5 : Int) (x6 : List UInt8) (x76 : List T_api_Index) (x77 x78 : Int) (b1 : J3) {b2 : T_pagemenddraw_Codes} (b4 : T_api_Index)
theorem Jg6 {x : T_api_Index} (h : x.Rows.length ≤ 64) : J2D x x = some true := Jnv x h
theorem go2 (hb : J0v b2) {l : List (List UInt8)} (hn : l.length < 1000000) (hl : ∀ s ∈ l, s.length ≤ 3000) : Jj5 x78 (J6u x3 x4 x5 x6 x76 x77 x78 l ((l.length : Nat) : Int) b1 b2 0) := by
  refine JcS (f := fun s => J1w x3 x4 x5 x6 x76 x77 x78 l ((l.length : Nat) : Int) b1 b2 s) hn (fun k hk => ?_) ?_
  · have e1 : ((k : Nat) : Int) < ((l.length : Nat) : Int) := by omega
    obtain ⟨r, d1, d2, d3⟩ := JoN l[k] (hl _ (List.getElem_mem hk))
    simp only [J1w, e1, decide_true, if_true, J4q hk, Option.bind_some, d1, d2, bne_self_eq_false, Bool.false_eq_true, if_false, Jg6 d3, J44 (show k < 1000000 by omega)]
  · have e1 : ¬ ((l.length : Nat) : Int) < ((l.length : Nat) : Int) := by omega
    simp only [J1w, e1, decide_false, Bool.false_eq_true, if_false, J4E, Option.map_some]
    exact .some ⟨_, rfl, b2, rfl, hb⟩
theorem go3 (hb : J0v b2) (h6 : x6.length ≤ 400) : Jj5 x78 (J3d x3 x4 x5 x6 x76 x77 x78 b1 b2 b4) := by
  obtain ⟨r, e1, e2, e3⟩ := Joy b4
  unfold J3d
  simp only [e1, e2, Option.bind_some, beq_self_eq_true, if_true, bne_self_eq_false, Bool.false_eq_true, if_false, Jbm, Jaj]
  refine .bind (Jpn hb (s := r.1) (by omega)) fun r1 ⟨h1, q1⟩ => ?_
  have w : IntKind.wrap .i64 (((r.1.length : Nat) : Int) + 1) = ((r.1.length + 1 : Nat) : Int) := J44 (by omega)
  rw [w]
  refine .bind (JiU h1 (by omega) (by omega)) fun r2 ⟨h2, q2⟩ => ?_
  obtain ⟨k, hk⟩ : ∃ k : Nat, r2.1 = (k : Int) := ⟨r2.1.toNat, by omega⟩
  rw [hk]
  refine .eq (JoL r.1 (b := k) (by omega)) ?_
  refine go2 x3 x4 x5 x6 x76 x77 x78 b1 h2 (by simp) fun s hs => ?_
  simp only [List.mem_cons, List.not_mem_nil, or_false] at hs
  rcases hs with rfl | rfl | rfl | rfl
  · omega
  · omega
  · omega
  · rw [List.length_take]; omega
theorem go1 (hb : J0v b2) (h6 : x6.length ≤ 400) {l : List (Vector Int 3)} (hn : l.length < 1000000) : Jj5 x78 (J6v x3 x4 x5 x6 x76 x77 x78 l ((l.length : Nat) : Int) b1 b2 b4 0) := by
  refine JcS (f := fun s => J1A x3 x4 x5 x6 x76 x77 x78 l ((l.length : Nat) : Int) b1 b2 b4 s) hn (fun k hk => ?_) ?_
  · have e1 : ((k : Nat) : Int) < ((l.length : Nat) : Int) := by omega
    have v0 : Jd0 l[k] 0 = some l[k][0] := Jhx _ 0 (by omega)
    have v1 : Jd0 l[k] 1 = some l[k][1] := Jhx _ 1 (by omega)
    have v2 : Jd0 l[k] 2 = some l[k][2] := Jhx _ 2 (by omega)
    have i0 : inb 3 0 = some () := rfl
    have i1 : inb 3 1 = some () := rfl
    have i2 : inb 3 2 = some () := rfl
    obtain ⟨r, d1, d2, d3⟩ := Jmp b4 l[k][0] l[k][1] l[k][2]
    simp only [J1A, e1, decide_true, if_true, J4q hk, Option.bind_some, v0, v1, v2, i0, i1, i2, d1, d2, bne_self_eq_false, Bool.false_eq_true, if_false, Jg6 d3, J44 (show k < 1000000 by omega)]
  · have e1 : ¬ ((l.length : Nat) : Int) < ((l.length : Nat) : Int) := by omega
    simp only [J1A, e1, decide_false, Bool.false_eq_true, if_false]
    exact .map (go3 x3 x4 x5 x6 x76 x77 x78 b1 b4 hb h6) fun r hr => ⟨r, rfl, hr⟩
theorem go4 (hb : J0v b2) (h6 : x6.length ≤ 400) : Jj5 x78 (J3e x3 x4 x5 x6 x76 x77 x78 b1 b2 b4) := by
  unfold J3e
  exact .bind (J22 hb (by omega) (by omega)) fun r1 ⟨h1, _⟩ => .bind (J22 h1 (by omega) (by omega)) fun r2 ⟨h2, _⟩ => .bind (J22 h2 (by omega) (by omega)) fun r3 ⟨h3, _⟩ =>
    .bind (J22 h3 (by omega) (by omega)) fun r4 ⟨h4, _⟩ => go1 x3 x4 x5 x6 x76 x77 x78 b1 b4 h4 h6 (by simp)
theorem go0 (hb : J0v b2) (h6 : x6.length ≤ 400) {l : List J3} (hn : l.length < 1000000) : Jj5 x78 (J6D x3 x4 x5 x6 x76 x77 x78 l ((l.length : Nat) : Int) b1 b2 b4 0) := by
  refine JcS (f := fun s => J1y x3 x4 x5 x6 x76 x77 x78 l ((l.length : Nat) : Int) b1 b2 b4 s) hn (fun k hk => ?_) ?_
  · have e1 : ((k : Nat) : Int) < ((l.length : Nat) : Int) := by omega
    obtain ⟨r, d1, d2, d3⟩ := JrX b4 l[k]
    simp only [J1y, e1, decide_true, if_true, J4q hk, Option.bind_some, d1, d2, bne_self_eq_false, Bool.false_eq_true, if_false, Jg6 d3, J44 (show k < 1000000 by omega)]
  · have e1 : ¬ ((l.length : Nat) : Int) < ((l.length : Nat) : Int) := by omega
    simp only [J1y, e1, decide_false, Bool.false_eq_true, if_false]
    exact .map (go4 x3 x4 x5 x6 x76 x77 x78 b1 b4 hb h6) fun r hr => ⟨r, rfl, hr⟩
theorem Juk : J35 x3 = some true := by
  obtain ⟨r, d1, d2, d3⟩ := Jt5 x3
  unfold J35
  simp only [d1, d2, Option.bind_some, beq_self_eq_true, if_true, Jg6 d3, ite_self]
theorem go6 (hb : J0v b2) (h6 : x6.length ≤ 400) (hn : x76.length < 1000) : J6B x3 x4 x5 x6 x76 ((x76.length : Nat) : Int) b1 (0, b2) = some true := by
  obtain ⟨o, ho, rfl⟩ := J5v (f := fun s : Int × T_pagemenddraw_Codes => J19 x3 x4 x5 x6 x76 ((x76.length : Nat) : Int) b1 s.1 s.2) (fun s => ∃ j : Nat, s.1 = j ∧ j ≤ x76.length ∧ J0v s.2) (fun s => (x76.length - s.1).toNat) (fun o => o = true) (fun s ⟨j, hj, h4, hc⟩ => by
    obtain ⟨q, c⟩ := s
    simp only at hj hc
    subst hj
    by_cases hlt : j < x76.length
    · left
      have e1 : ((j : Nat) : Int) < ((x76.length : Nat) : Int) := by omega
      have t : Jj5 (j : Int) (J19 x3 x4 x5 x6 x76 ((x76.length : Nat) : Int) b1 (j : Int) c) := by
        unfold J19
        simp only [e1, decide_true, if_true]
        exact .eq (J4q hlt) (.bind (JrC hc) fun r1 ⟨h1, _⟩ => .bind (J22 h1 (by omega) (by omega)) fun r2 ⟨h2, _⟩ => .bind (J22 h2 (by omega) (by omega)) fun r3 ⟨h3, _⟩ =>
          go0 x3 x4 x5 x6 x76 ((x76.length : Nat) : Int) (j : Int) b1 _ h3 h6 (by simp))
      obtain ⟨r, e, b, rfl, hb'⟩ := t
      rw [J44 (by omega)] at e
      exact ⟨_, e, ⟨j + 1, rfl, by omega, hb'⟩, by show ((x76.length : Int) - ((j + 1 : Nat) : Int)).toNat < ((x76.length : Int) - (j : Int)).toNat; omega⟩
    · right
      have e1 : ¬ ((j : Nat) : Int) < ((x76.length : Nat) : Int) := by omega
      refine ⟨true, ?_, rfl⟩
      simp only [J19, e1, decide_false, Bool.false_eq_true, if_false, Juk, Option.map_some]) (0, b2) ⟨0, rfl, by omega, hb⟩
  exact ho
end
theorem JcW {l : List Int} {raw : T_api_Index} {e : J3} {id image lsn : Int} {s : List UInt8} {q1 q2 q3 q4 q5 q6 : Prop} (h : List.length l ≤ maxLen ∧ ∀ x ∈ l, 0 ≤ x ∧ x ≤ 255) (_ : q1) (_ : q2) (_ : q3) (_ : q4) (_ : q5) (_ : q6) : J46 l raw e id image lsn s = some true := by
  unfold J46
  simp only [Jmh, Option.bind_some, if_true]
  by_cases c1 : ((raw.Rows.length : Nat) : Int) > 100
  · simp only [c1, decide_true, if_true]
  by_cases c2 : ((s.length : Nat) : Int) > 400
  · simp only [c1, c2, decide_true, decide_false, Bool.false_eq_true, if_true, if_false]
  simp only [c1, c2, decide_false, Bool.false_eq_true, if_false]
  obtain ⟨b0, a1, hb0⟩ := JrV h (n := 120) (by omega)
  have a1' : J79 l 120 = some b0 := a1
  obtain ⟨⟨x, b1⟩, a2, hb1, hx, h5⟩ := Js4 hb0
  obtain ⟨⟨y, b2⟩, a3, hb2, hy⟩ := JpH hb1 hx h5
  simp only at a2 a3 hb1 hb2
  simp only [a1', a2, a3, Option.bind_some]
  exact go6 id image lsn s _ e hb2 (by omega) (by simp)
end Go.Am
end
section
namespace Go.Am
section
variable (P : Program)
def J9H : Nat → TypeId → Bool
  | 0, _ => false
  | n + 1, t => match P.underlying t with
    | some .bool => true
    | some (.int _) => true
    | some .string => true
    | some (.slice e) => J9H n e && decide (t < P.types.size ∧ 0 < P.cellsOf e)
    | some (.struct fs) => fs.toList.all (fun f => J9H n f.type) && decide (t < P.types.size)
    | some (.array _ e) => J9H n e && decide (t < P.types.size)
    | _ => false
def J7B : Nat → TypeId → List PV → Prop
  | 0, _, _ => False
  | n + 1, t, pvs => match P.underlying t with
    | some .bool => ∃ b, pvs = [.b b]
    | some (.int k) => ∃ z, pvs = [.i k z] ∧ (Lit.int k z).wf = true
    | some .string => ∃ l, pvs = [.s l] ∧ l.length ≤ maxLen
    | some (.slice e) => ∃ rows, pvs = [.sl (P.cellsOf e) rows] ∧ rows.length ≤ maxLen ∧ ∀ row ∈ rows, row.length = P.cellsOf e ∧ J7B n e row
    | some (.struct fs) => pvs.length = P.cellsOf t ∧ ∀ f ∈ fs.toList, J7B n f.type ((pvs.drop f.offset).take (P.cellsOf f.type))
    | some (.array m e) => pvs.length = P.cellsOf t ∧ ∀ i, i < m → J7B n e ((pvs.drop (i * P.cellsOf e)).take (P.cellsOf e))
    | _ => False
end
section
variable {H : Type} {enc : TypeId × Value → H} {P : Program} {w : World} {base : Nat} {sp : Nat → Bool} {held : Bool}
def JnG (w : World) (pvs : List PV) (cs : List Value) : Prop :=
  pvs.length = cs.length ∧ ∀ (i : Nat) p v, pvs[i]? = some p → cs[i]? = some v → J0j w (fun r _ => r < w.heap.size) p v
theorem Jkc {a : Addr} {v : Value} (h : w.cell? a = some v) : a.spot = none ∧ J0A w a.block a.off = some v ∧ a.block < w.heap.size := by
  unfold World.cell? at h
  unfold J0A
  split at h
  · rename_i c t fz hb
    split at h
    · cases h
    · rename_i hs
      refine ⟨by simpa using hs, by rw [hb]; exact h, ?_⟩
      have := Array.getElem?_eq_some_iff.1 hb
      exact this.1
  · cases h
theorem JpP {a : Addr} {n : Nat} {cs : List Value} (h : w.cells? base a n = some cs) : cs.length = n ∧ ∀ i v, cs[i]? = some v → w.cell? (a.add i) = some v := by
  unfold World.cells? at h
  split at h
  · have hl := mapM_some_length h
    refine ⟨by simpa using hl, fun i v hv => ?_⟩
    have hi : i < n := by
      have := (List.getElem?_eq_some_iff.1 hv).1
      simp at hl; omega
    have := mapM_some_get h i i (by simp [hi])
    rw [this, hv]
  · cases h
theorem Ji9 {α : Type} (Q : Nat → α → Prop) : ∀ (m : Nat), (∀ i, i < m → ∃ x, Q i x) → ∃ xs : List α, xs.length = m ∧ ∀ i x, xs[i]? = some x → Q i x
  | 0, _ => ⟨[], rfl, fun i x h => by simp at h⟩
  | m + 1, h => by
    obtain ⟨xs, hl, hx⟩ := Ji9 Q m (fun i hi => h i (by omega))
    obtain ⟨y, hy⟩ := h m (by omega)
    refine ⟨xs ++ [y], by simp [hl], fun i x hi => ?_⟩
    rcases Nat.lt_or_ge i xs.length with hlt | hge
    · rw [List.getElem?_append_left hlt] at hi; exact hx i x hi
    · rw [List.getElem?_append_right hge] at hi
      have : i - xs.length = 0 := by
        have := (List.getElem?_eq_some_iff.1 hi).1
        simp at this; omega
      rw [this] at hi
      simp at hi; subst hi
      obtain rfl : i = m := by omega
      exact hy
theorem Jf8 {α : Type} : ∀ (xs : List (List α)) (j : Nat) (y : List α), xs[j]? = some y → (xs.flatten.drop ((xs.take j).map List.length).sum).take y.length = y
  | [], j, y, h => by simp at h
  | x :: xs, 0, y, h => by simp at h; subst h; simp
  | x :: xs, j + 1, y, h => by
    simp at h
    have := Jf8 xs j y h
    simp only [List.take_succ_cons, List.map_cons, List.sum_cons, List.flatten_cons, List.drop_length_add_append]
    exact this
theorem JrK (hl : laidOutB P = true) (hm : mapsRowed P = true) : ∀ (n : Nat) (t : TypeId) (cs : List Value) (x : DataW H × List MemPlace) (fuel : Nat), J9H P n t = true → DataW.trod enc P w base sp held fuel t cs = some x →
    ∃ pvs, J7B P n t pvs ∧ JnG w pvs cs := by
  have K := kids_rows hl hm
  intro n
  induction n with
  | zero => intro t cs x fuel hp; simp [J9H] at hp
  | succ n ih =>
    intro t cs x fuel hp h
    unfold J9H at hp
    unfold J7B
    split at hp
    · rename_i ht
      obtain ⟨b, rfl, _⟩ := DataW.trod_bool ht h
      refine ⟨[.b b], by simp, rfl, fun i p v h1 h2 => ?_⟩
      match i with
      | 0 => simp at h1 h2; subst h1 h2; exact .b _
      | i + 1 => simp at h1
    · rename_i k ht
      obtain ⟨z, rfl, _, hwf⟩ := DataW.trod_int ht h
      refine ⟨[.i k z], by simpa using hwf, rfl, fun i p v h1 h2 => ?_⟩
      match i with
      | 0 => simp at h1 h2; subst h1 h2; exact .i _ _
      | i + 1 => simp at h1
    · rename_i ht
      obtain ⟨s, rfl, _, hsz⟩ := DataW.trod_string ht h
      refine ⟨[.s s.data.toList], ⟨_, rfl, by rw [Array.length_toList]; exact hsz⟩, rfl, fun i p v h1 h2 => ?_⟩
      match i with
      | 0 => simp at h1 h2; subst h1 h2; exact .s _
      | i + 1 => simp at h1
    · rename_i e ht
      simp only [Bool.and_eq_true, decide_eq_true_eq] at hp
      rcases DataW.trod_slice ht h with ⟨rfl, _⟩ | ⟨a, len, cap, elems, rest, n0, _, rfl, _, _, hlc, hcm, hel, hat, _⟩
      · refine ⟨[.sl (P.cellsOf e) []], ⟨[], rfl, Nat.zero_le _, by simp⟩, rfl, fun i p v h1 h2 => ?_⟩
        match i with
        | 0 => simp at h1 h2; subst h1 h2; exact .sl0 _ _ _
        | i + 1 => simp at h1
      ·
        have hrow : ∀ i, i < len → ∃ row : List PV, (row.length = P.cellsOf e ∧ J7B P n e row) ∧ ∀ j p, row[j]? = some p → ∃ v, w.cell? (a.add (i * P.cellsOf e) |>.add j) = some v ∧ J0j w (fun r _ => r < w.heap.size) p v := by
          intro i hi
          have h1 := hat i hi
          have h2 : ∃ y, elems[i]? = some y := ⟨_, List.getElem?_eq_getElem (by omega)⟩
          obtain ⟨y, hy⟩ := h2
          rw [hy, Option.bind_eq_some_iff] at h1
          obtain ⟨cs', hc, ht'⟩ := h1
          obtain ⟨row, q1, q2, q3⟩ := ih e cs' y n0 hp.1 ht'
          obtain ⟨c1, c2⟩ := JpP hc
          refine ⟨row, ⟨by omega, q1⟩, fun j p hj => ?_⟩
          have hlt : j < cs'.length := by have := (List.getElem?_eq_some_iff.1 hj).1; omega
          have hv := List.getElem?_eq_getElem hlt
          exact ⟨_, c2 j _ hv, q3 j p _ hj hv⟩
        obtain ⟨rows, hrl, hrows⟩ := Ji9 _ len hrow
        refine ⟨[.sl (P.cellsOf e) rows], ⟨rows, rfl, by omega, fun row hr => ?_⟩, rfl, fun i p v h1 h2 => ?_⟩
        · obtain ⟨i, hi⟩ := List.getElem?_of_mem hr
          exact (hrows i row hi).1
        match i with
        | i + 1 => simp at h1
        | 0 =>
          simp at h1 h2; subst h1 h2
          by_cases h0 : ∃ (i j : Nat) (row : List PV) (p : PV), rows[i]? = some row ∧ row[j]? = some p
          · obtain ⟨i0, j0, row0, p0, hr0, hp0⟩ := h0
            have spot : a.spot = none ∨ P.cellsOf e = 0 := by
              rcases Nat.eq_zero_or_pos (P.cellsOf e) with hz | hpos
              · exact .inr hz
              · have hlen : 0 < len := by have := (List.getElem?_eq_some_iff.1 hr0).1; omega
                have hr00 := List.getElem?_eq_getElem (l := rows) (i := 0) (by omega)
                have q := hrows 0 _ hr00
                have hj0 := List.getElem?_eq_getElem (l := rows[0]'(by omega)) (i := 0) (by omega)
                obtain ⟨v, hv, _⟩ := q.2 0 _ hj0
                rw [Nat.zero_mul] at hv
                exact .inl (by simpa [Addr.add] using (Jkc hv).1)
            rcases spot with spot | hz
            · have cell : ∀ (i j : Nat) (row : List PV) (p : PV), rows[i]? = some row → row[j]? = some p → ∃ v, (a.block < w.heap.size ∧ J0A w a.block (a.off + i * P.cellsOf e + j) = some v) ∧ J0j w (fun r _ => r < w.heap.size) p v := by
                intro i j row p hi hj
                obtain ⟨v, hv, hr⟩ := (hrows i row hi).2 j p hj
                obtain ⟨s1, s2, s3⟩ := Jkc hv
                refine ⟨v, ?_, hr⟩
                have e1 : ((a.add (i * P.cellsOf e)).add j).block = a.block := by unfold Addr.add; split <;> split <;> rfl
                have e2 : ((a.add (i * P.cellsOf e)).add j).off = a.off + i * P.cellsOf e + j := by
                  unfold Addr.add
                  split <;> split <;> simp_all
                rw [e1] at s3
                rw [e1, e2] at s2
                exact ⟨s3, s2⟩
              have ea : a = ⟨a.block, a.off, none⟩ := by cases a; simp_all
              rw [ea, ← hrl]
              refine .sl _ rows a.block a.off cap (fun i j => ((J0A w a.block (a.off + i * P.cellsOf e + j)).getD default)) (by omega) (fun row hr => ?_) (fun i j row p hi hj => ?_) (fun i j row p hi hj => ?_)
              · obtain ⟨i, hi⟩ := List.getElem?_of_mem hr
                exact (hrows i row hi).1.1
              · obtain ⟨v, ⟨h3, h4⟩, _⟩ := cell i j row p hi hj
                exact ⟨h3, by rw [h4]; rfl⟩
              · obtain ⟨v, ⟨h3, h4⟩, h5⟩ := cell i j row p hi hj
                rw [h4]; exact h5
            · have := (hrows i0 row0 hr0).1.1
              have := (List.getElem?_eq_some_iff.1 hp0).1
              omega
          ·
            rcases Nat.eq_zero_or_pos len with hz | hpos
            · have : rows = [] := by cases rows <;> simp_all
              subst this
              subst hz
              exact .sl0 _ _ _
            · exfalso
              have hr00 := List.getElem?_eq_getElem (l := rows) (i := 0) (by omega)
              have q := (hrows 0 _ hr00).1.1
              exact h0 ⟨0, 0, _, _, hr00, List.getElem?_eq_getElem (by omega)⟩
    · rename_i fs ht
      simp only [Bool.and_eq_true, decide_eq_true_eq, List.all_eq_true] at hp
      obtain ⟨xs, n0, _, _, hcl, hxl, hat⟩ := DataW.trod_struct ht h
      obtain ⟨_, ksum, koff⟩ := K.struct hp.2 ht
      have hf : ∀ i, i < fs.toList.length → ∃ ys : List PV, ∀ f, fs.toList[i]? = some f → J7B P n f.type ys ∧ JnG w ys ((cs.drop f.offset).take (P.cellsOf f.type)) := by
        intro i hi
        have hfi := List.getElem?_eq_getElem hi
        have hmem := List.mem_of_getElem? hfi
        have hfa : fs[i]? = some (fs.toList[i]) := by rw [← Array.getElem?_toList]; exact hfi
        have h1 := hat i _ hfa
        have h2 : ∃ y, xs[i]? = some y := ⟨_, List.getElem?_eq_getElem (by simpa [hxl] using hi)⟩
        obtain ⟨y, hy⟩ := h2
        rw [hy] at h1
        obtain ⟨ys, q1, q2⟩ := ih _ _ _ _ (hp.1 _ hmem) h1
        refine ⟨ys, fun f hff => ?_⟩
        rw [hfi] at hff; injection hff with hff; subst hff
        exact ⟨q1, q2⟩
      obtain ⟨yss, hyl, hys⟩ := Ji9 _ _ hf
      have hlen : ∀ (j : Nat) (f : Field), fs.toList[j]? = some f → ∀ ys : List PV, yss[j]? = some ys → ys.length = P.cellsOf f.type := by
        intro j f hj ys hy
        have q := (hys j ys hy f hj).2.1
        have o := koff j f hj
        rw [q, List.length_take, List.length_drop, hcl, ksum, o]
        have : ((fs.toList.take j).map fun f => P.cellsOf f.type).sum + P.cellsOf f.type ≤ (fs.toList.map fun f => P.cellsOf f.type).sum := by
          have e1 : fs.toList = fs.toList.take j ++ (f :: fs.toList.drop (j + 1)) := by
            have hjl := (List.getElem?_eq_some_iff.1 hj)
            obtain ⟨hjl, he⟩ := hjl
            rw [← he, ← List.drop_eq_getElem_cons hjl, List.take_append_drop]
          conv => rhs; rw [e1]
          simp only [List.map_append, List.map_cons, List.sum_append, List.sum_cons]
          omega
        omega
      have hmapl : yss.map List.length = fs.toList.map fun f => P.cellsOf f.type := by
        apply List.ext_getElem?
        intro j
        rw [List.getElem?_map, List.getElem?_map]
        cases hy : yss[j]? with
        | none =>
          have : fs.toList[j]? = none := by rw [List.getElem?_eq_none_iff] at hy ⊢; omega
          rw [this]; rfl
        | some ys =>
          have hj : j < fs.toList.length := by have := (List.getElem?_eq_some_iff.1 hy).1; omega
          have hfj := List.getElem?_eq_getElem hj
          rw [hfj]
          simp only [Option.map_some]
          rw [hlen j _ hfj ys hy]
      have hoff : ∀ (j : Nat) (f : Field), fs.toList[j]? = some f → ((yss.take j).map List.length).sum = f.offset := by
        intro j f hj
        rw [koff j f hj, List.map_take, hmapl, ← List.map_take]
      refine ⟨yss.flatten, ⟨?_, fun f hf => ?_⟩, ?_, fun i p v h1 h2 => ?_⟩
      · rw [List.length_flatten, hmapl, ksum]
      · obtain ⟨j, hj⟩ := List.getElem?_of_mem hf
        have hjl : j < yss.length := by have := (List.getElem?_eq_some_iff.1 hj).1; omega
        have hyj := List.getElem?_eq_getElem hjl
        have := Jf8 yss j _ hyj
        rw [hoff j f hj, hlen j f hj _ hyj] at this
        rw [this]
        exact (hys j _ hyj f hj).1
      · rw [List.length_flatten, hmapl, hcl, ksum]
      ·
        have key : ∀ (l : List (List PV)) (i : Nat) p, l.flatten[i]? = some p → ∃ j ys k, l[j]? = some ys ∧ ys[k]? = some p ∧ i = ((l.take j).map List.length).sum + k := by
          intro l
          induction l with
          | nil => intro i p h; simp at h
          | cons y l ihl =>
            intro i p h
            rw [List.flatten_cons] at h
            rcases Nat.lt_or_ge i y.length with hlt | hge
            · rw [List.getElem?_append_left hlt] at h
              exact ⟨0, y, i, rfl, h, by simp⟩
            · rw [List.getElem?_append_right hge] at h
              obtain ⟨j, ys, k, a1, a2, a3⟩ := ihl _ _ h
              exact ⟨j + 1, ys, k, by simpa using a1, a2, by simp only [List.take_succ_cons, List.map_cons, List.sum_cons]; omega⟩
        obtain ⟨j, ys, k, a1, a2, a3⟩ := key _ _ _ h1
        have hj : j < fs.toList.length := by have := (List.getElem?_eq_some_iff.1 a1).1; omega
        have hfj := List.getElem?_eq_getElem hj
        have q := (hys j ys a1 _ hfj).2
        refine q.2 k p v a2 ?_
        have hk : k < P.cellsOf (fs.toList[j]).type := by have := (List.getElem?_eq_some_iff.1 a2).1; rw [hlen j _ hfj ys a1] at this; exact this
        rw [List.getElem?_take_of_lt hk, List.getElem?_drop, ← hoff j _ hfj, ← a3]
        exact h2
    · rename_i m e ht
      simp only [Bool.and_eq_true, decide_eq_true_eq] at hp
      obtain ⟨xs, n0, _, _, hcl, hxl, hat⟩ := DataW.trod_array ht h
      obtain ⟨_, ksz⟩ := K.array hp.2 ht
      have hf : ∀ i, i < m → ∃ ys : List PV, J7B P n e ys ∧ JnG w ys ((cs.drop (i * P.cellsOf e)).take (P.cellsOf e)) := by
        intro i hi
        have h1 := hat i hi
        have h2 : ∃ y, xs[i]? = some y := ⟨_, List.getElem?_eq_getElem (by omega)⟩
        obtain ⟨y, hy⟩ := h2
        rw [hy] at h1
        exact ih _ _ _ _ hp.1 h1
      obtain ⟨yss, hyl, hys⟩ := Ji9 _ _ hf
      have hlen : ∀ (j : Nat) ys, yss[j]? = some ys → ys.length = P.cellsOf e := by
        intro j ys hy
        have q := (hys j ys hy).2.1
        have hj : j < m := by have := (List.getElem?_eq_some_iff.1 hy).1; omega
        rw [q, List.length_take, List.length_drop, hcl, ksz]
        have : j * P.cellsOf e + P.cellsOf e ≤ m * P.cellsOf e := by rw [← Nat.succ_mul]; exact Nat.mul_le_mul_right _ hj
        omega
      have hall : ∀ y ∈ yss, y.length = P.cellsOf e := fun y hy => by
        obtain ⟨j, hj⟩ := List.getElem?_of_mem hy
        exact hlen j y hj
      have hsum : ∀ l : List (List PV), (∀ y ∈ l, y.length = P.cellsOf e) → (l.map List.length).sum = l.length * P.cellsOf e := by
        intro l
        induction l with
        | nil => intro _; simp
        | cons y l ihl => intro hh; simp [hh y (by simp), ihl (fun z hz => hh z (by simp [hz])), Nat.succ_mul, Nat.add_comm]
      have hoff : ∀ j, j ≤ m → ((yss.take j).map List.length).sum = j * P.cellsOf e := by
        intro j hj
        rw [hsum _ (fun y hy => hall y (List.mem_of_mem_take hy)), List.length_take, hyl, Nat.min_eq_left hj]
      refine ⟨yss.flatten, ⟨?_, fun j hj => ?_⟩, ?_, fun i p v h1 h2 => ?_⟩
      · rw [List.length_flatten, hsum _ hall, hyl, ksz]
      · have hyj := List.getElem?_eq_getElem (l := yss) (i := j) (by omega)
        have := Jf8 yss j _ hyj
        rw [hoff j (by omega), hlen j _ hyj] at this
        rw [this]
        exact (hys j _ hyj).1
      · rw [List.length_flatten, hsum _ hall, hcl, hyl, ksz]
      · have key : ∀ (l : List (List PV)) (i : Nat) p, l.flatten[i]? = some p → ∃ j ys k, l[j]? = some ys ∧ ys[k]? = some p ∧ i = ((l.take j).map List.length).sum + k := by
          intro l
          induction l with
          | nil => intro i p h; simp at h
          | cons y l ihl =>
            intro i p h
            rw [List.flatten_cons] at h
            rcases Nat.lt_or_ge i y.length with hlt | hge
            · rw [List.getElem?_append_left hlt] at h
              exact ⟨0, y, i, rfl, h, by simp⟩
            · rw [List.getElem?_append_right hge] at h
              obtain ⟨j, ys, k, a1, a2, a3⟩ := ihl _ _ h
              exact ⟨j + 1, ys, k, by simpa using a1, a2, by simp only [List.take_succ_cons, List.map_cons, List.sum_cons]; omega⟩
        obtain ⟨j, ys, k, a1, a2, a3⟩ := key _ _ _ h1
        have hj : j < m := by have := (List.getElem?_eq_some_iff.1 a1).1; omega
        have q := (hys j ys a1).2
        refine q.2 k p v a2 ?_
        have hk : k < P.cellsOf e := by have := (List.getElem?_eq_some_iff.1 a2).1; rw [hlen j ys a1] at this; exact this
        rw [List.getElem?_take_of_lt hk, List.getElem?_drop, ← hoff j (by omega), ← a3]
        exact h2
    · cases hp
end
end Go.Am
end
