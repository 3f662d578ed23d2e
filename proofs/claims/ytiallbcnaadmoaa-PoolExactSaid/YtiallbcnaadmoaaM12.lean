/-
  Parts of a proof.
-/
import Derived.Test.YtiallbcnaadmoaaM11
set_option linter.unusedSimpArgs false
set_option linter.unusedVariables false
section
namespace Go.Am
theorem JwG (x : Int) : ∃ k : Nat, J60 .u32 x 15 = (k : Int) ∧ k < 16 := by
  have h : (BitVec.ofInt 32 x &&& BitVec.ofInt 32 15).toNat ≤ 15 := by
    rw [BitVec.toNat_and]
    exact Nat.and_le_right
  refine ⟨(BitVec.ofInt 32 x &&& BitVec.ofInt 32 15).toNat, ?_, by omega⟩
  show (((BitVec.ofInt 32 x &&& BitVec.ofInt 32 15).toNat : Nat) : Int) % 4294967296 = _
  omega
theorem Jm8 : ∃ v, J35 = some v := by
  have inner : ∀ (k : Nat) (b0 b1 : Vector Int 16), k < 16 → ∀ r : Int, ∃ o, J8c k k b0 b1 (r, 0) = some o ∧ ∃ v, o = .inl (((k + 1 : Nat) : Int), v) := by
    intro k b0 b1 hk r
    refine J2v (f := fun s : Int × Int => J0y k k b0 b1 s.1 s.2) (fun s => ∃ j : Nat, s.2 = j ∧ j ≤ 4) (fun s => (4 - s.2).toNat) _ (fun s ⟨j, hj, h4⟩ => ?_) (r, 0) ⟨0, rfl, by omega⟩
    obtain ⟨x, j'⟩ := s
    simp only at hj
    subst hj
    by_cases hlt : j < 4
    · left
      have e1 : ((j : Nat) : Int) < 4 := by omega
      have e2 : Jdv .u32 x 1 = some (x.fdiv (2 ^ (min (1 : Int).toNat IntKind.u32.bits))) := rfl
      by_cases hb : J60 .u32 x 1 = 1
      · exact ⟨⟨_, ((j + 1 : Nat) : Int)⟩, by simp only [J0y, e1, decide_true, if_true, hb, beq_self_eq_true, e2, Option.bind_some, J1R (show j < 1000000 by omega)]; rfl, ⟨j + 1, rfl, by omega⟩, by simp; omega⟩
      · have e3 : (J60 .u32 x 1 == 1) = false := by simpa using hb
        exact ⟨⟨_, ((j + 1 : Nat) : Int)⟩, by simp only [J0y, e1, decide_true, if_true, e3, Bool.false_eq_true, if_false, e2, Option.bind_some, J1R (show j < 1000000 by omega)]; rfl, ⟨j + 1, rfl, by omega⟩, by simp; omega⟩
    · right
      have e1 : ¬ ((j : Nat) : Int) < 4 := by omega
      exact ⟨.inl (((k + 1 : Nat) : Int), Jbh b1 k x), by simp only [J0y, e1, decide_false, Bool.false_eq_true, if_false, J4m, J4n, Jbo hk, J7d _ k hk, Option.bind_some, Option.map_some, J1R (show k < 1000000 by omega)], _, rfl⟩
  obtain ⟨v, hv, _⟩ := J2v (f := fun s : Int × Vector Int 16 => J0Y (Vector.replicate 16 0) s.1 s.2) (fun s => ∃ j : Nat, s.1 = j ∧ j ≤ 16) (fun s => (16 - s.1).toNat) (fun _ => True) (fun s ⟨j, hj, h4⟩ => by
    obtain ⟨j', b1⟩ := s
    simp only at hj
    subst hj
    by_cases hlt : j < 16
    · left
      have e1 : ((j : Nat) : Int) < 16 := by omega
      obtain ⟨o, ho, v, rfl⟩ := inner j (Vector.replicate 16 0) b1 hlt (IntKind.wrap .u32 (j : Int))
      exact ⟨⟨((j + 1 : Nat) : Int), v⟩, by simp only [J0Y, e1, decide_true, if_true]; exact ho, ⟨j + 1, rfl, by omega⟩, by simp; omega⟩
    · right
      have e1 : ¬ ((j : Nat) : Int) < 16 := by omega
      exact ⟨b1, by simp only [J0Y, e1, decide_false, Bool.false_eq_true, if_false, J4z, Option.map_some], trivial⟩) (0, Vector.replicate 16 0) ⟨0, rfl, by omega⟩
  exact ⟨v, hv⟩
theorem Jpo {l : List UInt8} {k : Nat} (h : k < l.length) : JkY l (k : Int) = some ((l[k]).toNat : Int) := by
  have e : (0 : Int) ≤ k := by omega
  simp [JkY, e, h]
theorem JvX (l : List UInt8) (hl : l.length ≤ 1000) : ∃ r, J3Q l = some r := by
  obtain ⟨v, hv⟩ := Jm8
  obtain ⟨r, hr, _⟩ := J2v (f := fun s : Int × Int => J3d l (l.length : Int) v s.1 s.2) (fun s => ∃ j : Nat, s.2 = j ∧ j ≤ l.length) (fun s => (l.length - s.2).toNat) (fun _ => True) (fun s ⟨j, hj, h4⟩ => by
    obtain ⟨x, j'⟩ := s
    simp only at hj
    subst hj
    by_cases hlt : j < l.length
    · left
      have e1 : ((j : Nat) : Int) < (l.length : Int) := by omega
      have e2 : ∀ z : Int, Jdv .u32 z 4 = some (z.fdiv (2 ^ (min (4 : Int).toNat IntKind.u32.bits))) := fun _ => rfl
      have e3 : ∀ z : Int, ∃ y, inb 16 (J60 .u32 z 15) = some () ∧ J9L v (J60 .u32 z 15) = some y := by
        intro z
        obtain ⟨k, hk, hk2⟩ := JwG z
        rw [hk]
        exact ⟨_, Jbo hk2, J7d _ k hk2⟩
      obtain ⟨y1, a1, a2⟩ := e3 (J7R .u32 x (IntKind.wrap .u32 (((l[j]).toNat : Nat) : Int)))
      obtain ⟨y2, a3, a4⟩ := e3 (J7R .u32 ((J7R .u32 x (IntKind.wrap .u32 (((l[j]).toNat : Nat) : Int))).fdiv (2 ^ (min (4 : Int).toNat IntKind.u32.bits))) y1)
      exact ⟨⟨_, ((j + 1 : Nat) : Int)⟩, by simp only [J3d, e1, decide_true, if_true, Jpo hlt, Option.bind_some, e2, a1, a2, a3, a4, J1R (show j < 1000000 by omega)]; rfl, ⟨j + 1, rfl, by omega⟩, by simp; omega⟩
    · right
      have e1 : ¬ ((j : Nat) : Int) < (l.length : Int) := by omega
      exact ⟨_, by simp only [J3d, e1, decide_false, Bool.false_eq_true, if_false, J8k, Option.map_some]; rfl, trivial⟩) (4294967295, 0) ⟨0, rfl, by omega⟩
  exact ⟨r, by unfold J3Q; rw [hv]; exact hr⟩
theorem Jgj (l : List UInt8) (n : Int) {k : Nat} (h1 : 1 ≤ k) (h8 : k ≤ 8) (hl : l.length ≤ 1000) : J62 l n (k : Int) = some (l ++ J33 n k) := by
  have e1 : ¬ ((k : Int) < 1 ∨ 8 < (k : Int)) := by omega
  have e2 : l.length + 8 ≤ 140737488355328 := by omega
  show Jl3 l n k = _
  rw [Jl3, if_neg e1, if_pos e2]
  simp
theorem JnJ {a b : List UInt8} (ha : a.length ≤ 1000) (hb : b.length ≤ 1000) : JdC a b = some (a ++ b) := by
  have e : a.length + b.length ≤ 4611686018427387904 := by omega
  simp [JdC, e]
theorem JnU {n : Int} (h0 : 0 ≤ n) (h1 : n ≤ 1000) : J5b [0] n = some (List.replicate n.toNat 0) := by
  show JkF [0] n = _
  have e : (0 : Int) ≤ n ∧ n ≤ 9223372036854775807 ∧ ([0] : List UInt8).length * n.toNat ≤ 140737488355328 := by
    refine ⟨h0, by omega, ?_⟩
    simp; omega
  rw [JkF, if_pos e]
  have : ∀ k : Nat, (List.replicate k ([0] : List UInt8)).flatten = List.replicate k 0 := by
    intro k
    induction k with
    | zero => rfl
    | succ k ih => rw [List.replicate_succ, List.flatten_cons, ih]; rfl
  rw [this]
theorem Jrt (p : T_api_Page) : ∃ b, J49 p = some b ∧ (b = true → ∀ (i : Nat) (h : i < 16), (p.Cells[i]).Data.length ≤ 12) ∧ ((∀ (i : Nat) (h : i < 16), J6j p.LSN p.Cells[i]) → b = true) := by
  refine J2v (f := fun s : Int => J0m p.Cells p s) (fun s => ∃ j : Nat, s = j ∧ j ≤ 16 ∧ ∀ (i : Nat) (h : i < 16), i < j → (p.Cells[i]).Data.length ≤ 12) (fun s => (16 - s).toNat)
    (fun b => (b = true → ∀ (i : Nat) (h : i < 16), (p.Cells[i]).Data.length ≤ 12) ∧ ((∀ (i : Nat) (h : i < 16), J6j p.LSN p.Cells[i]) → b = true)) (fun s ⟨j, hj, h4, hc⟩ => ?_) 0 ⟨0, rfl, by omega, fun i h hh => by omega⟩
  subst hj
  by_cases hlt : j < 16
  · have e1 : ((j : Nat) : Int) < 16 := by omega
    have e2 := J7d p.Cells j hlt
    have e3 := J1R (show j < 1000000 by omega)
    have bad : ¬ J6j p.LSN p.Cells[j] → (∀ (i : Nat) (h : i < 16), J6j p.LSN p.Cells[i]) → false = true := fun h1 h2 => (h1 (h2 j hlt)).elim
    by_cases h12 : (((p.Cells[j]).Data.length : Nat) : Int) > 12
    · right
      exact ⟨false, by simp only [J0m, e1, decide_true, if_true, e2, Option.bind_some, h12], fun h => (by cases h), bad fun h => by have := h.1; omega⟩
    · have nxt : ∀ (i : Nat) (h : i < 16), i < j + 1 → (p.Cells[i]).Data.length ≤ 12 := by
        intro i hi hij
        by_cases hh : i < j
        · exact hc i hi hh
        · obtain rfl : i = j := by omega
          omega
      by_cases hs : (p.Cells[j]).Set = true
      · by_cases hl : p.LSN = 0
        · right
          exact ⟨false, by simp only [J0m, e1, decide_true, if_true, e2, Option.bind_some, h12, decide_false, Bool.false_eq_true, if_false, hs, hl, beq_self_eq_true], fun h => (by cases h), bad fun h => h.2.2 hs hl⟩
        · left
          have e4 : (p.LSN == 0) = false := by simpa using hl
          exact ⟨((j + 1 : Nat) : Int), by simp only [J0m, e1, decide_true, if_true, e2, Option.bind_some, h12, decide_false, Bool.false_eq_true, if_false, hs, e4, e3], ⟨j + 1, rfl, by omega, nxt⟩, by omega⟩
      · have hs' : (p.Cells[j]).Set = false := by simpa using hs
        by_cases hd : (p.Cells[j]).Data = []
        · left
          exact ⟨((j + 1 : Nat) : Int), by simp only [J0m, e1, decide_true, if_true, e2, Option.bind_some, h12, decide_false, Bool.false_eq_true, if_false, hs', hd, beq_self_eq_true, e3]; rfl, ⟨j + 1, rfl, by omega, nxt⟩, by omega⟩
        · right
          have e4 : ((p.Cells[j]).Data == []) = false := by simpa using hd
          exact ⟨false, by simp only [J0m, e1, decide_true, if_true, e2, Option.bind_some, h12, decide_false, Bool.false_eq_true, if_false, hs', e4], fun h => (by cases h), bad fun h => hd (h.2.1 hs')⟩
  · right
    have e1 : ¬ ((j : Nat) : Int) < 16 := by omega
    exact ⟨true, by simp only [J0m, e1, decide_false, Bool.false_eq_true, if_false, J7H, Option.map_some], fun _ i h => hc i h (by omega), fun _ => rfl⟩
end Go.Am
end
section
namespace Go.Am
def P32 : Nat := 2197175160
def gb (c : Nat) : Nat := if c % 2 = 1 then c / 2 ^^^ P32 else c / 2
def gN : Nat → Nat → Nat
  | 0, c => c
  | j + 1, c => gN j (gb c)
def sl (b : Nat) : Nat := if b = 1 then P32 else 0
theorem Jjn (c : Nat) : gb c = c / 2 ^^^ sl (c % 2) := by
  unfold gb sl
  split
  · rfl
  · rw [Nat.xor_zero]
theorem Jw7 (x y : Nat) : gb (x ^^^ y) = gb x ^^^ gb y := by
  have e1 : (x ^^^ y) / 2 = x / 2 ^^^ y / 2 := by have := @Nat.xor_div_two_pow x y 1; simpa using this
  have e2 : (x ^^^ y) % 2 = x % 2 ^^^ y % 2 := by have := @Nat.xor_mod_two_pow x y 1; simpa using this
  simp only [Jjn, e1, e2]
  have e3 : sl (x % 2 ^^^ y % 2) = sl (x % 2) ^^^ sl (y % 2) := by
    rcases Nat.mod_two_eq_zero_or_one x with h | h <;> rcases Nat.mod_two_eq_zero_or_one y with h' | h' <;> rw [h, h'] <;> decide
  rw [e3]
  ac_rfl
theorem Jjm : ∀ (j x y : Nat), gN j (x ^^^ y) = gN j x ^^^ gN j y
  | 0, _, _ => rfl
  | j + 1, x, y => by simp only [gN]; rw [Jw7, Jjm j]
theorem JrO : ∀ (i j x : Nat), gN (i + j) x = gN j (gN i x)
  | 0, j, x => by simp [gN]
  | i + 1, j, x => by rw [Nat.succ_add]; simp only [gN]; exact JrO i j _
theorem JpD (c : Nat) : gN 4 c = c / 16 ^^^ (sl (c / 8 % 2) ^^^ gN 1 (sl (c / 4 % 2)) ^^^ gN 2 (sl (c / 2 % 2)) ^^^ gN 3 (sl (c % 2))) := by
  have s1 : gN 4 c = gN 3 (c / 2) ^^^ gN 3 (sl (c % 2)) := by
    rw [← Jjm, ← Jjn]; rfl
  have s2 : gN 3 (c / 2) = gN 2 (c / 4) ^^^ gN 2 (sl (c / 2 % 2)) := by
    rw [← Jjm, show c / 4 = c / 2 / 2 by omega, ← Jjn]; rfl
  have s3 : gN 2 (c / 4) = gN 1 (c / 8) ^^^ gN 1 (sl (c / 4 % 2)) := by
    rw [← Jjm, show c / 8 = c / 4 / 2 by omega, ← Jjn]; rfl
  have s4 : gN 1 (c / 8) = c / 16 ^^^ sl (c / 8 % 2) := by
    rw [show c / 16 = c / 8 / 2 by omega, ← Jjn]; rfl
  rw [s1, s2, s3, s4]
  ac_rfl
theorem Jt1 (c : Nat) : gN 4 c = c / 16 ^^^ gN 4 (c % 16) := by
  rw [JpD c, JpD (c % 16)]
  have a0 : c % 16 / 16 = 0 := by omega
  have a1 : c % 16 / 8 % 2 = c / 8 % 2 := by omega
  have a2 : c % 16 / 4 % 2 = c / 4 % 2 := by omega
  have a3 : c % 16 / 2 % 2 = c / 2 % 2 := by omega
  have a4 : c % 16 % 2 = c % 2 := by omega
  rw [a0, a1, a2, a3, a4, Nat.zero_xor]
theorem Jrw : P32 < 2 ^ 32 := by decide
theorem JtD {c : Nat} (h : c < 2 ^ 32) : gb c < 2 ^ 32 := by
  unfold gb
  split
  · exact Nat.xor_lt_two_pow (by omega) Jrw
  · omega
theorem JjU : ∀ {j c : Nat}, c < 2 ^ 32 → gN j c < 2 ^ 32
  | 0, _, h => h
  | j + 1, _, h => JjU (j := j) (JtD h)
theorem Jem (n : Nat) (h : n < 2 ^ 32) : IntKind.wrap .u32 (n : Int) = (n : Int) := by
  rw [show IntKind.wrap .u32 (n : Int) = (n : Int) % 4294967296 from rfl]; omega
theorem Jl8 {n : Nat} (h : n < 2 ^ 32) : (BitVec.ofInt 32 (n : Int)).toNat = n := by
  rw [BitVec.toNat_ofInt]; omega
theorem Jit {x y : Nat} (hx : x < 2 ^ 32) (hy : y < 2 ^ 32) : J7R .u32 (x : Int) (y : Int) = ((x ^^^ y : Nat) : Int) := by
  show IntKind.wrap .u32 (((BitVec.ofInt 32 (x : Int) ^^^ BitVec.ofInt 32 (y : Int)).toNat : Nat) : Int) = _
  rw [BitVec.toNat_xor, Jl8 hx, Jl8 hy, Jem _ (Nat.xor_lt_two_pow hx hy)]
theorem Jo1 {x : Nat} (hx : x < 2 ^ 32) (k : Nat) (hk : k ≤ 20) : J60 .u32 (x : Int) ((2 ^ k - 1 : Nat) : Int) = ((x % 2 ^ k : Nat) : Int) := by
  show IntKind.wrap .u32 (((BitVec.ofInt 32 (x : Int) &&& BitVec.ofInt 32 ((2 ^ k - 1 : Nat) : Int)).toNat : Nat) : Int) = _
  have h2 : 2 ^ k - 1 < 2 ^ 32 := by
    have : (2 : Nat) ^ k ≤ 2 ^ 20 := Nat.pow_le_pow_right (by omega) hk
    omega
  rw [BitVec.toNat_and, Jl8 hx, Jl8 h2, Nat.and_two_pow_sub_one_eq_mod, Jem _ (Nat.lt_of_le_of_lt (Nat.mod_le _ _) hx)]
theorem Jx7 {x : Nat} (hx : x < 2 ^ 32) : J60 .u32 (x : Int) 1 = ((x % 2 : Nat) : Int) := Jo1 hx 1 (by omega)
theorem JvK {x : Nat} (hx : x < 2 ^ 32) : J60 .u32 (x : Int) 15 = ((x % 16 : Nat) : Int) := Jo1 hx 4 (by omega)
theorem Jxl (x : Nat) : Jdv .u32 (x : Int) 1 = some ((x / 2 : Nat) : Int) := by
  show some ((x : Int).fdiv 2) = _
  rw [Int.fdiv_eq_ediv_of_nonneg _ (by omega)]; simp
theorem Jxc (x : Nat) : Jdv .u32 (x : Int) 4 = some ((x / 16 : Nat) : Int) := by
  show some ((x : Int).fdiv 16) = _
  rw [Int.fdiv_eq_ediv_of_nonneg _ (by omega)]; simp
def Jof : List UInt8 → Nat → Nat
  | [], c => c
  | b :: r, c => Jof r (gN 8 (c ^^^ b.toNat))
theorem Jh3 (b : UInt8) : b.toNat < 2 ^ 32 := by have := UInt8.toNat_lt b; omega
theorem Jpu : ∀ {l : List UInt8} {c : Nat}, c < 2 ^ 32 → Jof l c < 2 ^ 32
  | [], _, h => h
  | b :: r, _, h => Jpu (l := r) (JjU (Nat.xor_lt_two_pow h (Jh3 b)))
def crc (l : List UInt8) : Nat := Jof l 4294967295 ^^^ 4294967295
theorem JvP (l : List UInt8) : crc l < 2 ^ 32 := Nat.xor_lt_two_pow (Jpu (by decide)) (by decide)
theorem Js5 {x : Nat} (hx : x < 2 ^ 32) : Jsw .u32 (x : Int) = ((x ^^^ 4294967295 : Nat) : Int) := by
  show IntKind.wrap .u32 (((BitVec.ofInt 32 4294967295 ^^^ BitVec.ofInt 32 (x : Int)).toNat : Nat) : Int) = _
  rw [BitVec.toNat_xor, Jl8 hx, show (4294967295 : Int) = ((4294967295 : Nat) : Int) by rfl, Jl8 (by decide), Nat.xor_comm, Jem _ (Nat.xor_lt_two_pow hx (by decide))]
theorem Jka : ∃ v, J35 = some v ∧ ∀ (i : Nat) (h : i < 16), v[i] = ((gN 4 i : Nat) : Int) := by
  have inner : ∀ (k : Nat) (b0 b1 : Vector Int 16), k < 16 → ∀ (m j c : Nat), c < 2 ^ 32 → j + m = 4 → JO (fun s : Int × Int => J0y k k b0 b1 s.1 s.2) ((c : Int), (j : Int)) = some (.inl (((k + 1 : Nat) : Int), Jbh b1 k ((gN m c : Nat) : Int))) := by
    intro k b0 b1 hk m
    induction m with
    | zero =>
      intro j c hc hj
      obtain rfl : j = 4 := by omega
      refine J2j ?_
      have e1 : ¬ (((4 : Nat) : Nat) : Int) < 4 := by omega
      simp only [J0y, e1, decide_false, Bool.false_eq_true, if_false, J4m, J4n, Jbo hk, J7d _ k hk, Option.bind_some, Option.map_some, J1R (show k < 1000000 by omega), gN]
    | succ m ih =>
      intro j c hc hj
      have e1 : ((j : Nat) : Int) < 4 := by omega
      refine (J2U (s' := (((gb c : Nat) : Int), ((j + 1 : Nat) : Int))) ?_).trans (ih (j + 1) (gb c) (JtD hc) (by omega))
      have e2 := Jx7 hc
      simp only [J0y, e1, decide_true, if_true, e2, Jxl, Option.bind_some, J1R (show j < 1000000 by omega)]
      unfold gb
      by_cases hb : c % 2 = 1
      · simp only [hb, if_true, Int.natCast_one, beq_self_eq_true]
        rw [show (2197175160 : Int) = ((P32 : Nat) : Int) by rfl, Jit (by omega) Jrw]
      · have e3 : (((c % 2 : Nat) : Int) == 1) = false := by simp; omega
        simp only [hb, if_false, e3, Bool.false_eq_true]
  refine J2v (f := fun s : Int × Vector Int 16 => J0Y (Vector.replicate 16 0) s.1 s.2) (fun s => ∃ j : Nat, s.1 = j ∧ j ≤ 16 ∧ ∀ (i : Nat) (h : i < 16), i < j → s.2[i] = ((gN 4 i : Nat) : Int)) (fun s => (16 - s.1).toNat) (fun v => ∀ (i : Nat) (h : i < 16), v[i] = ((gN 4 i : Nat) : Int)) (fun s ⟨j, hj, h4, hv⟩ => ?_) (0, Vector.replicate 16 0) ⟨0, rfl, by omega, fun i h hh => by omega⟩
  obtain ⟨j', b1⟩ := s
  simp only at hj hv
  subst hj
  by_cases hlt : j < 16
  · left
    have e1 : ((j : Nat) : Int) < 16 := by omega
    have ho := inner j (Vector.replicate 16 0) b1 hlt 4 0 j (by omega) (by omega)
    refine ⟨⟨((j + 1 : Nat) : Int), Jbh b1 j ((gN 4 j : Nat) : Int)⟩, by simp only [J0Y, e1, decide_true, if_true, Jem j (by omega)]; exact ho, ⟨j + 1, rfl, by omega, fun i h hh => ?_⟩, by simp; omega⟩
    simp only [Jbh, Int.toNat_natCast, Vector.getElem_setIfInBounds]
    by_cases hij : j = i
    · subst hij; simp
    · rw [if_neg hij]; exact hv i h (by omega)
  · right
    obtain rfl : j = 16 := by omega
    have e1 : ¬ (((16 : Nat) : Nat) : Int) < 16 := by omega
    exact ⟨b1, by simp only [J0Y, e1, decide_false, Bool.false_eq_true, if_false, J4z, Option.map_some], fun i h => hv i h h⟩
theorem Js2 (l : List UInt8) (hl : l.length ≤ 100000) : J3Q l = some ((crc l : Nat) : Int) := by
  obtain ⟨v, hv, ht⟩ := Jka
  have outer : ∀ (m j c : Nat), c < 2 ^ 32 → j + m = l.length → JO (fun s : Int × Int => J3d l (l.length : Int) v s.1 s.2) ((c : Int), (j : Int)) = some (((Jof (l.drop j) c ^^^ 4294967295 : Nat) : Int)) := by
    intro m
    induction m with
    | zero =>
      intro j c hc hj
      obtain rfl : j = l.length := by omega
      refine J2j ?_
      have e1 : ¬ ((l.length : Nat) : Int) < ((l.length : Nat) : Int) := by omega
      simp only [J3d, e1, decide_false, Bool.false_eq_true, if_false, J8k, Option.map_some, Js5 hc, List.drop_length, Jof]
    | succ m ih =>
      intro j c hc hj
      have hlt : j < l.length := by omega
      have e1 : ((j : Nat) : Int) < ((l.length : Nat) : Int) := by omega
      have hx := Nat.xor_lt_two_pow hc (Jh3 l[j])
      have step : ∀ x : Nat, x < 2 ^ 32 → inb 16 (J60 .u32 (x : Int) 15) = some () ∧ J9L v (J60 .u32 (x : Int) 15) = some ((gN 4 (x % 16) : Nat) : Int) ∧ J7R .u32 ((x / 16 : Nat) : Int) ((gN 4 (x % 16) : Nat) : Int) = ((gN 4 x : Nat) : Int) := by
        intro x hx
        have h16 : x % 16 < 16 := by omega
        rw [JvK hx]
        refine ⟨Jbo h16, by rw [J7d _ _ h16, ht _ h16], ?_⟩
        rw [Jit (by omega) (JjU (by omega)), ← Jt1]
      refine (J2U (s' := (((gN 8 (c ^^^ (l[j]).toNat) : Nat) : Int), ((j + 1 : Nat) : Int))) ?_).trans ((ih (j + 1) _ (JjU hx) (by omega)).trans ?_)
      · obtain ⟨a1, a2, a3⟩ := step _ hx
        obtain ⟨b1, b2, b3⟩ := step (gN 4 (c ^^^ (l[j]).toNat)) (JjU hx)
        simp only [J3d, e1, decide_true, if_true, Jpo hlt, Option.bind_some, Jem _ (Jh3 l[j]), Jit hc (Jh3 l[j]), Jxc, a1, a2, a3, b1, b2, b3, J1R (show j < 1000000 by omega)]
        rw [← JrO 4 4]
      · rw [List.drop_eq_getElem_cons hlt]
        rfl
  unfold J3Q
  rw [hv]
  exact outer l.length 0 4294967295 (by decide) (by omega)
end Go.Am
end
section
namespace Go.Am
theorem JvB {α : Type} (l : List α) {b : Nat} (h2 : b ≤ l.length) : J8L l none (some (b : Int)) = some (l.take b) := by
  have e1 : (0 : Int) ≤ b ∧ (b : Int) ≤ l.length := by omega
  simp only [J8L, JiF, JeZ, e1, and_self, if_true, Int.toNat_natCast, List.drop_zero, Nat.sub_zero]
theorem Jti {α : Type} (l : List α) {a : Nat} (h2 : a ≤ l.length) : J8L l (some (a : Int)) none = some (l.drop a) := by
  have e1 : (0 : Int) ≤ a ∧ (a : Int) ≤ l.length := by omega
  simp only [J8L, JiF, JeZ, e1, and_self, if_true, Int.toNat_natCast]
  rw [List.take_of_length_le (by simp)]
end Go.Am
end
section
namespace Go.Am
def blk : List UInt8 := List.replicate 256 0
end Go.Am
end
section
namespace Go.Am
end Go.Am
end
section
namespace Go.Am
def Jfa (c : Jk) : List UInt8 := J33 (if c.Set then (c.Data.length : Int) else 255) 1 ++ c.Data ++ List.replicate (12 - c.Data.length) 0
theorem JqP {c : Jk} (h : c.Data.length ≤ 12) : (Jfa c).length = 13 := by
  simp only [Jfa, List.length_append, J68, List.length_replicate]; omega
theorem Jrn (b : T_page_builder) (c : Jk) (hc : c.Data.length ≤ 12) (hb : b.s_.length ≤ 300) : J3G b c = some ⟨b.s_ ++ Jfa c⟩ := by
  have go : ∀ x : Int, J2Y x b c = some ⟨b.s_ ++ (J33 x 1 ++ c.Data ++ List.replicate (12 - c.Data.length) 0)⟩ := by
    intro x
    have e0 : IntKind.wrap .i64 (12 - ((c.Data.length : Nat) : Int)) = ((12 - c.Data.length : Nat) : Int) := by rw [J7E (by omega) (by omega)]; omega
    have e1 := Jgj b.s_ x (k := 1) (by omega) (by omega) (by omega)
    have e2 : JdC (b.s_ ++ J33 x 1) c.Data = some (b.s_ ++ J33 x 1 ++ c.Data) := JnJ (by rw [List.length_append, J68]; omega) (by omega)
    have e3 := JnU (n := ((12 - c.Data.length : Nat) : Int)) (by omega) (by omega)
    rw [Int.toNat_natCast] at e3
    have e4 : JdC (b.s_ ++ J33 x 1 ++ c.Data) (List.replicate (12 - c.Data.length) 0) = some (b.s_ ++ J33 x 1 ++ c.Data ++ List.replicate (12 - c.Data.length) 0) := JnJ (by simp only [List.length_append, J68]; omega) (by simp; omega)
    unfold J2Y
    rw [show (1 : Int) = ((1 : Nat) : Int) by rfl, e1, Option.bind_some, e2, Option.bind_some, e0, e3, Option.bind_some, e4, Option.bind_some]
    simp only [List.append_assoc]
  unfold J3G Jfa
  cases hs : c.Set with
  | true => simp only [if_true]; exact go _
  | false => simp only [Bool.false_eq_true, if_false]; exact go _
end Go.Am
end
section
namespace Go.Am
def JaC (l : List Jk) : List UInt8 := (l.map Jfa).flatten
theorem Jf5 : ∀ {l : List Jk}, (∀ c ∈ l, c.Data.length ≤ 12) → (JaC l).length = 13 * l.length
  | [], _ => rfl
  | c :: l, h => by
    have h1 := JqP (h c (by simp))
    have h2 := Jf5 (l := l) fun d hd => h d (by simp [hd])
    simp only [JaC, List.map_cons, List.flatten_cons, List.length_append, List.length_cons] at h2 ⊢
    omega
theorem Jpj (l : List Jk) (c : Jk) : JaC (l ++ [c]) = JaC l ++ Jfa c := by simp [JaC]
def J89 (p : T_api_Page) : List UInt8 := J33 p.LSN 8 ++ J33 p.ID 4 ++ JaC p.Cells.toList ++ List.replicate 24 0
theorem Jou {p : T_api_Page} (hp : JbF p) : ∃ c, J3Q (J89 p) = some c ∧ J1l p = some (J89 p ++ J33 (IntKind.wrap .i64 c) 4 ++ J33 p.LSN 8, 0) := by
  have hd : ∀ c ∈ p.Cells.toList, c.Data.length ≤ 12 := by
    intro c hc
    obtain ⟨i, hi, rfl⟩ := List.getElem_of_mem hc
    have h16 : i < 16 := by simpa using hi
    have := (hp.cells i h16).1
    simpa using this
  have loop := J2v (f := fun s : Int × T_page_builder => J4f p.Cells p s.1 s.2) (fun s => ∃ j : Nat, s.1 = j ∧ j ≤ 16 ∧ s.2.s_ = J33 p.LSN 8 ++ J33 p.ID 4 ++ JaC (p.Cells.toList.take j)) (fun s => (16 - s.1).toNat)
    (fun r => ∃ c, J3Q (J89 p) = some c ∧ r = (J89 p ++ J33 (IntKind.wrap .i64 c) 4 ++ J33 p.LSN 8, 0)) (fun s ⟨j, hj, h4, ht⟩ => by
    obtain ⟨j', b⟩ := s
    simp only at hj ht
    subst hj
    have hl : (JaC (p.Cells.toList.take j)).length = 13 * j := by
      rw [Jf5 fun c hc => hd c (List.mem_of_mem_take hc)]
      simp; omega
    have hbl : b.s_.length = 12 + 13 * j := by rw [ht]; simp only [List.length_append, J68, hl]
    by_cases hlt : j < 16
    · left
      have e1 : ((j : Nat) : Int) < 16 := by omega
      have e2 := Jrn b p.Cells[j] (hp.cells j hlt).1 (by omega)
      have e3 : p.Cells.toList.take (j + 1) = p.Cells.toList.take j ++ [p.Cells[j]] := by
        rw [List.take_add_one, List.getElem?_eq_getElem (by simpa using hlt)]
        simp
      exact ⟨⟨((j + 1 : Nat) : Int), ⟨b.s_ ++ Jfa p.Cells[j]⟩⟩, by simp only [J4f, e1, decide_true, if_true, J7d _ j hlt, Option.bind_some, e2, J1R (show j < 1000000 by omega)], ⟨j + 1, rfl, by omega, by show b.s_ ++ _ = _; rw [ht, e3, Jpj]; simp only [List.append_assoc]⟩, by simp; omega⟩
    · right
      obtain rfl : j = 16 := by omega
      have e1 : ¬ (((16 : Nat) : Nat) : Int) < 16 := by omega
      have e5 : p.Cells.toList.take 16 = p.Cells.toList := List.take_of_length_le (by simp)
      rw [e5] at ht
      have a0 : IntKind.wrap .i64 (244 - ((b.s_.length : Nat) : Int)) = 24 := by rw [hbl, J7E (by omega) (by omega)]; omega
      have a1 : J5b [0] 24 = some (List.replicate 24 0) := JnU (n := 24) (by omega) (by omega)
      have a6 : b.s_ ++ List.replicate 24 0 = J89 p := by rw [ht]; rfl
      have a7 : (J89 p).length = 244 := by rw [← a6]; simp [hbl]
      have a2 : JdC b.s_ (List.replicate 24 0) = some (J89 p) := by rw [← a6]; exact JnJ (by omega) (by simp)
      obtain ⟨r, a3⟩ := JvX (J89 p) (by omega)
      have a4 := Jgj (J89 p) (IntKind.wrap .i64 r) (k := 4) (by omega) (by omega) (by omega)
      have a5 := Jgj (J89 p ++ J33 (IntKind.wrap .i64 r) 4) p.LSN (k := 8) (by omega) (by omega) (by simp [a7, J68])
      refine ⟨_, ?_, r, a3, rfl⟩
      simp only [J4f, e1, decide_false, Bool.false_eq_true, if_false, J8V, a0, a1, a2, a3, Option.bind_some]
      rw [show (4 : Int) = ((4 : Nat) : Int) by rfl, a4, Option.bind_some, show (8 : Int) = ((8 : Nat) : Int) by rfl, a5]
      rfl) (0, ⟨J33 p.LSN 8 ++ J33 p.ID 4⟩) ⟨0, rfl, by omega, by simp [JaC]⟩
  obtain ⟨r, hr, c, hc, rfl⟩ := loop
  refine ⟨c, hc, ?_⟩
  obtain ⟨d, e2, _, hd2⟩ := Jrt p
  have hd3 := hd2 hp.cells
  subst hd3
  have e1 : J22 p = some true := by
    have i0 := hp.id0; have i1 := hp.id1; have l0 := hp.lsn0; have l1 := hp.lsn1
    simp [J22, J5q, i0, i1, l0, l1]
  have a1 := Jgj [] p.LSN (k := 8) (by omega) (by omega) (by simp)
  have a2 := Jgj ([] ++ J33 p.LSN 8) p.ID (k := 4) (by omega) (by omega) (by simp [J68])
  unfold J1l
  simp only [e1, e2, Option.bind_some, if_true]
  rw [show (8 : Int) = ((8 : Nat) : Int) by rfl, a1, Option.bind_some, show (4 : Int) = ((4 : Nat) : Int) by rfl, a2, Option.bind_some, List.nil_append]
  exact hr
end Go.Am
end
section
namespace Go.Am
theorem JsD {p : T_api_Page} (hp : JbF p) : (J89 p).length = 244 := by
  have hd : ∀ c ∈ p.Cells.toList, c.Data.length ≤ 12 := by
    intro c hc
    obtain ⟨i, hi, rfl⟩ := List.getElem_of_mem hc
    have h16 : i < 16 := by simpa using hi
    have := (hp.cells i h16).1
    simpa using this
  unfold J89
  simp only [List.length_append, J68, List.length_replicate]
  rw [Jf5 hd]
  simp
end Go.Am
end
section
namespace Go.Am
end Go.Am
end
section
namespace Go.Am
theorem Jo9 {b : T_pagemenddraw_Codes} (hb : J03 b) : ∃ x b', J1N b = some (x, b') ∧ J03 b' := by
  obtain ⟨r, b1, e1, hb1, _, _⟩ := J3e hb (n := 10) (by omega) (by omega)
  unfold J1N
  simp only [e1, Option.bind_some]
  by_cases h0 : r = 0
  · obtain ⟨r2, b2, e2, hb2, _, _⟩ := J3e hb1 (n := 3) (by omega) (by omega)
    exact ⟨_, b2, by rw [if_pos (by simpa using h0), e2]; rfl, hb2⟩
  · rw [if_neg (by simpa using h0)]
    by_cases h1 : r = 1
    · obtain ⟨r2, b2, e2, hb2, hr0, hr1⟩ := J3e hb1 (n := 16) (by omega) (by omega)
      obtain ⟨k, rfl⟩ : ∃ k : Nat, r2 = (k : Int) := ⟨r2.toNat, by omega⟩
      rw [if_pos (by simpa using h1), e2]
      simp only [Option.bind_some, Jh9]
      rw [List.getElem?_eq_getElem (by simp; omega)]
      exact ⟨_, b2, rfl, hb2⟩
    · obtain ⟨r2, b2, e2, hb2, _, _⟩ := J3e hb1 (n := 20) (by omega) (by omega)
      rw [if_neg (by simpa using h1), e2]
      exact ⟨_, b2, rfl, hb2⟩
end Go.Am
end
section
namespace Go.Am
def Jh6 (p : T_api_Page) : Prop := ∀ (i : Nat) (h : i < 16), J6j p.LSN p.Cells[i]
theorem Jg4 (p : T_api_Page) : ∃ b, J49 p = some b ∧ (b = true ↔ Jh6 p) := by
  refine J2v (f := fun s : Int => J0m p.Cells p s) (fun s => ∃ j : Nat, s = j ∧ j ≤ 16 ∧ ∀ (i : Nat) (h : i < 16), i < j → J6j p.LSN p.Cells[i]) (fun s => (16 - s).toNat)
    (fun b => b = true ↔ Jh6 p) (fun s ⟨j, hj, h4, hc⟩ => ?_) 0 ⟨0, rfl, by omega, fun i h hh => by omega⟩
  subst hj
  by_cases hlt : j < 16
  · have e1 : ((j : Nat) : Int) < 16 := by omega
    have e2 := J7d p.Cells j hlt
    have e3 := J1R (show j < 1000000 by omega)
    have bad : ¬ J6j p.LSN p.Cells[j] → (false = true ↔ Jh6 p) := fun h1 => ⟨fun h => (by cases h), fun h2 => (h1 (h2 j hlt)).elim⟩
    have nxt : J6j p.LSN p.Cells[j] → ∀ (i : Nat) (h : i < 16), i < j + 1 → J6j p.LSN p.Cells[i] := by
      intro hok i hi hij
      by_cases hh : i < j
      · exact hc i hi hh
      · obtain rfl : i = j := by omega
        exact hok
    by_cases h12 : (((p.Cells[j]).Data.length : Nat) : Int) > 12
    · right
      exact ⟨false, by simp only [J0m, e1, decide_true, if_true, e2, Option.bind_some, h12], bad fun h => by have := h.1; omega⟩
    · by_cases hs : (p.Cells[j]).Set = true
      · by_cases hl : p.LSN = 0
        · right
          exact ⟨false, by simp only [J0m, e1, decide_true, if_true, e2, Option.bind_some, h12, decide_false, Bool.false_eq_true, if_false, hs, hl, beq_self_eq_true], bad fun h => h.2.2 hs hl⟩
        · left
          have e4 : (p.LSN == 0) = false := by simpa using hl
          exact ⟨((j + 1 : Nat) : Int), by simp only [J0m, e1, decide_true, if_true, e2, Option.bind_some, h12, decide_false, Bool.false_eq_true, if_false, hs, e4, e3], ⟨j + 1, rfl, by omega, nxt ⟨by omega, (fun h => by rw [hs] at h; cases h), fun _ => hl⟩⟩, by omega⟩
      · have hs' : (p.Cells[j]).Set = false := by simpa using hs
        by_cases hd : (p.Cells[j]).Data = []
        · left
          exact ⟨((j + 1 : Nat) : Int), by simp only [J0m, e1, decide_true, if_true, e2, Option.bind_some, h12, decide_false, Bool.false_eq_true, if_false, hs', hd, beq_self_eq_true, e3]; rfl, ⟨j + 1, rfl, by omega, nxt ⟨by omega, fun _ => hd, fun h => (hs h).elim⟩⟩, by omega⟩
        · right
          have e4 : ((p.Cells[j]).Data == []) = false := by simpa using hd
          exact ⟨false, by simp only [J0m, e1, decide_true, if_true, e2, Option.bind_some, h12, decide_false, Bool.false_eq_true, if_false, hs', e4], bad fun h => hd (h.2.1 hs')⟩
  · right
    have e1 : ¬ ((j : Nat) : Int) < 16 := by omega
    exact ⟨true, by simp only [J0m, e1, decide_false, Bool.false_eq_true, if_false, J7H, Option.map_some], fun _ i h => hc i h (by omega), fun _ => rfl⟩
end Go.Am
end
section
namespace Go.Am
theorem Jim (p : T_api_Page) : J3B p = J22 p := by
  unfold J3B J22 J5q
  by_cases h1 : p.ID ≥ 0
  · by_cases h2 : p.ID < 64
    · simp only [h1, h2, decide_true, if_true, Option.bind_some]
    · simp only [h1, h2, decide_true, decide_false, if_true, Bool.false_eq_true, if_false, Option.bind_some]
  · simp only [h1, decide_false, Bool.false_eq_true, if_false, Option.bind_some]
theorem JjE (p : T_api_Page) : ∃ b, J22 p = some b ∧ (b = true ↔ (0 ≤ p.ID ∧ p.ID < 64 ∧ 0 ≤ p.LSN ∧ p.LSN ≤ 1099511627776)) := by
  unfold J22 J5q
  by_cases h1 : p.ID ≥ 0
  · by_cases h2 : p.ID < 64
    · by_cases h3 : p.LSN ≥ 0
      · refine ⟨decide (p.LSN ≤ 1099511627776), by simp only [h1, h2, h3, decide_true, if_true, Option.bind_some], ?_⟩
        rw [decide_eq_true_eq]
        exact ⟨fun h => ⟨h1, h2, h3, h⟩, fun h => h.2.2.2⟩
      · exact ⟨false, by simp only [h1, h2, h3, decide_true, decide_false, if_true, Bool.false_eq_true, if_false, Option.bind_some], by simp; omega⟩
    · exact ⟨false, by simp only [h1, h2, decide_true, decide_false, if_true, Bool.false_eq_true, if_false, Option.bind_some], by simp; omega⟩
  · exact ⟨false, by simp only [h1, decide_false, Bool.false_eq_true, if_false, Option.bind_some], by simp; omega⟩
theorem Jm6 (p : T_api_Page) : ∃ b, J4Q p = some b ∧ (b = true ↔ Jh6 p) := by
  refine J2v (f := fun s : Int => J1H p s) (fun s => ∃ j : Nat, s = j ∧ j ≤ 16 ∧ ∀ (i : Nat) (h : i < 16), i < j → J6j p.LSN p.Cells[i]) (fun s => (16 - s).toNat)
    (fun b => b = true ↔ Jh6 p) (fun s ⟨j, hj, h4, hc⟩ => ?_) 0 ⟨0, rfl, by omega, fun i h hh => by omega⟩
  subst hj
  by_cases hlt : j < 16
  · have e1 : ((j : Nat) : Int) < 16 := by omega
    have e2 := J7d p.Cells j hlt
    have e3 := J1R (show j < 1000000 by omega)
    have e0 := Jbo hlt
    have bad : ¬ J6j p.LSN p.Cells[j] → (false = true ↔ Jh6 p) := fun h1 => ⟨fun h => (by cases h), fun h2 => (h1 (h2 j hlt)).elim⟩
    have nxt : J6j p.LSN p.Cells[j] → ∀ (i : Nat) (h : i < 16), i < j + 1 → J6j p.LSN p.Cells[i] := by
      intro hok i hi hij
      by_cases hh : i < j
      · exact hc i hi hh
      · obtain rfl : i = j := by omega
        exact hok
    by_cases h12 : (((p.Cells[j]).Data.length : Nat) : Int) ≤ 12
    · by_cases hs : (p.Cells[j]).Set = true
      · have v1 : J0z p.Cells[j] = some true := by simp only [J0z, h12, decide_true, if_true, hs]
        by_cases hl : p.LSN = 0
        · right
          exact ⟨false, by simp only [J1H, e1, decide_true, if_true, e0, e2, Option.bind_some, v1, hs, hl, beq_self_eq_true], bad fun h => h.2.2 hs hl⟩
        · left
          have e4 : (p.LSN == 0) = false := by simpa using hl
          exact ⟨((j + 1 : Nat) : Int), by simp only [J1H, e1, decide_true, if_true, e0, e2, Option.bind_some, v1, e4, Bool.false_eq_true, if_false, e3], ⟨j + 1, rfl, by omega, nxt ⟨by omega, (fun h => by rw [hs] at h; cases h), fun _ => hl⟩⟩, by omega⟩
      · have hs' : (p.Cells[j]).Set = false := by simpa using hs
        by_cases hd : (p.Cells[j]).Data = []
        · have v1 : J0z p.Cells[j] = some true := by simp only [J0z, h12, decide_true, if_true, hs', Bool.false_eq_true, if_false]; rw [hd]; rfl
          left
          refine ⟨((j + 1 : Nat) : Int), ?_, ⟨j + 1, rfl, by omega, nxt ⟨by omega, fun _ => hd, fun h => (hs h).elim⟩⟩, by omega⟩
          simp only [J1H, e1, decide_true, if_true, e0, e2, Option.bind_some, v1, hs', Bool.false_eq_true, if_false, e3]
          split <;> rfl
        · right
          have e4 : ((p.Cells[j]).Data == []) = false := by simpa using hd
          have v1 : J0z p.Cells[j] = some false := by simp only [J0z, h12, decide_true, if_true, hs', Bool.false_eq_true, if_false, e4]
          exact ⟨false, by simp only [J1H, e1, decide_true, if_true, e0, e2, Option.bind_some, v1, Bool.false_eq_true, if_false], bad fun h => hd (h.2.1 hs')⟩
    · right
      have v1 : J0z p.Cells[j] = some false := by simp only [J0z, h12, decide_false, Bool.false_eq_true, if_false]
      exact ⟨false, by simp only [J1H, e1, decide_true, if_true, e0, e2, Option.bind_some, v1, Bool.false_eq_true, if_false], bad fun h => h12 (by have := h.1; omega)⟩
  · right
    have e1 : ¬ ((j : Nat) : Int) < 16 := by omega
    exact ⟨true, by simp only [J1H, e1, decide_false, Bool.false_eq_true, if_false, J8W, Option.map_some], fun _ i h => hc i h (by omega), fun _ => rfl⟩
theorem JlT (p : T_api_Page) : J4Q p = J49 p := by
  obtain ⟨b, h1, h2⟩ := Jg4 p
  obtain ⟨c, h3, h4⟩ := Jm6 p
  rw [h1, h3]
  congr 1
  cases b <;> cases c <;> simp_all
theorem JrL (p : T_api_Page) : J5D p = J4a p := by
  unfold J5D J4a
  simp only [Jim, JlT]
theorem JlB (p : T_api_Page) : ∃ b, J4a p = some b ∧ (b = true ↔ JbF p) := by
  obtain ⟨a, h1, h2⟩ := JjE p
  obtain ⟨b, h3, h4⟩ := Jg4 p
  unfold J4a
  simp only [h1, h3, Option.bind_some]
  cases a with
  | false =>
    refine ⟨false, rfl, fun h => (by cases h), fun h => ?_⟩
    have := h2.2 ⟨h.id0, h.id1, h.lsn0, h.lsn1⟩
    cases this
  | true =>
    obtain ⟨i0, i1, l0, l1⟩ := h2.1 rfl
    refine ⟨b, rfl, fun h => ⟨i0, i1, l0, l1, h4.1 h⟩, fun h => h4.2 h.cells⟩
def JtG (p : T_api_Page) : List UInt8 := J89 p ++ J33 ((crc (J89 p) : Nat) : Int) 4 ++ J33 p.LSN 8
theorem Jlu {p : T_api_Page} (hp : JbF p) : J1l p = some (JtG p, 0) := by
  obtain ⟨c, h1, h2⟩ := Jou hp
  rw [Js2 _ (by rw [JsD hp]; omega)] at h1
  injection h1 with h1
  subst h1
  have hc := JvP (J89 p)
  rw [J7E (by omega) (by omega)] at h2
  exact h2
theorem JqY (p : T_api_Page) : ∃ e, J3b p = some e ∧ (e = 0 ↔ JbF p) ∧ (e ≠ 0 → J1l p = some ([], e)) := by
  obtain ⟨a, h1, h2⟩ := JjE p
  obtain ⟨b, h3, h4⟩ := Jg4 p
  unfold J3b
  simp only [Jim, JlT, h1, h3, Option.bind_some]
  cases a with
  | false =>
    refine ⟨1, rfl, ⟨fun h => (by cases h), fun h => ?_⟩, fun _ => ?_⟩
    · have := h2.2 ⟨h.id0, h.id1, h.lsn0, h.lsn1⟩
      cases this
    · unfold J1l
      simp only [h1, Option.bind_some, Bool.false_eq_true, if_false]
  | true =>
    obtain ⟨i0, i1, l0, l1⟩ := h2.1 rfl
    cases b with
    | false =>
      refine ⟨22, rfl, ⟨fun h => (by cases h), fun h => ?_⟩, fun _ => ?_⟩
      · have := h4.2 h.cells
        cases this
      · unfold J1l
        simp only [h1, h3, Option.bind_some, if_true, Bool.false_eq_true, if_false]
    | true => exact ⟨0, rfl, ⟨fun _ => ⟨i0, i1, l0, l1, h4.1 rfl⟩, fun _ => rfl⟩, fun h => (h rfl).elim⟩
end Go.Am
end
section
namespace Go.Am
set_option maxRecDepth 16000
theorem bind_none {α β : Type} {o : Option α} {f : α → Option β} (h : Option.bind o f = none) (h2 : ∀ x, o = some x → f x ≠ none) : o = none := by
  cases o with
  | none => rfl
  | some x => exact (h2 x rfl h).elim
end Go.Am
end
section
namespace Go.Am
set_option maxRecDepth 16000
theorem Jtb {b : T_pagemenddraw_Codes} (hb : J03 b) {n : Int} (h1 : 1 ≤ n) (h2 : n ≤ 65536) : ∃ r b', Jp b n = some (r, b') ∧ J03 b' ∧ 0 ≤ r ∧ r < n := by
  by_cases hn : n ≤ 256
  · exact J3e hb h1 hn
  · by_cases hc : b.at_ ≥ (b.l_.length : Int)
    · refine ⟨0, b, ?_, hb, by omega, by omega⟩
      show J0H (11 + 1) b n = _
      simp only [J0H, J2I, hc, decide_true, if_true]
    · obtain ⟨ha, hb1, hl, hx⟩ := hb
      obtain ⟨k, hk⟩ : ∃ k : Nat, b.at_ = (k : Int) := ⟨b.at_.toNat, by omega⟩
      have hk2 : k < b.l_.length := by omega
      have hy := hx _ (List.getElem_mem hk2)
      have e1 : ¬ n < 1 := by omega
      have e2 : n > 256 := by omega
      have e3 : idx b.l_ b.at_ = some b.l_[k] := by rw [hk, Jh9, List.getElem?_eq_getElem hk2]
      have hb' : J03 ⟨b.l_, b.at_ + 1⟩ := ⟨by show 0 ≤ b.at_ + 1; omega, by show b.at_ + 1 ≤ (b.l_.length : Int); omega, hl, hx⟩
      obtain ⟨r, b2, e4, hb2, hr0, hr1⟩ := JjT hb' (n := 256) (by omega) (by omega) 10
      have e5 : IntKind.wrap .i64 (b.at_ + 1) = b.at_ + 1 := J7E (by omega) (by omega)
      have e6 : IntKind.wrap .i64 (IntKind.wrap .i64 (256 * IntKind.wrap .i64 b.l_[k]) + r) = 256 * b.l_[k] + r := by
        rw [J7E (n := b.l_[k]) (by omega) (by omega), J7E (n := 256 * b.l_[k]) (by omega) (by omega), J7E (by omega) (by omega)]
      have e7 : ¬ n = 0 := by omega
      refine ⟨(256 * b.l_[k] + r).tmod n, b2, ?_, hb2, Int.tmod_nonneg _ (by omega), Int.tmod_lt_of_pos _ (by omega)⟩
      show J0H (11 + 1) b n = _
      have e8 : J0H 11 ⟨b.l_, b.at_ + 1⟩ 256 = some (r, b2) := e4
      rw [show J0H (11 + 1) = J2I (J0H 11) from rfl]
      simp only [J2I, hc, e1, e2, e3, e5, e6, e8, decide_true, decide_false, if_true, Bool.false_eq_true, if_false, Option.bind_some, Jbm, e7]
theorem Jv0 {l : List Int} (h : List.length l ≤ maxLen ∧ ∀ x ∈ l, 0 ≤ x ∧ x ≤ 255) {n : Nat} (hn : n ≤ 1000) : ∃ b, J5U l (n : Int) = some b ∧ J03 b := JvJ h.2 hn
theorem Juc {b : T_pagemenddraw_Codes} (hb : J03 b) (p : T_api_Page) : ∃ q b', J1E b p = some (q, b') ∧ J03 b' := by
  obtain ⟨r, b1, e1, hb1, _, _⟩ := J3e hb (n := 4) (by omega) (by omega)
  unfold J1E
  simp only [e1, Option.bind_some]
  obtain ⟨x, b2, e2, hb2⟩ := Jo9 hb1
  obtain ⟨r3, b3, e3, hb3, h30, h31⟩ := J3e hb1 (n := 16) (by omega) (by omega)
  obtain ⟨k, rfl⟩ : ∃ k : Nat, r3 = (k : Int) := ⟨r3.toNat, by omega⟩
  have hk : k < 16 := by omega
  obtain ⟨r4, b4, e4, hb4, _, _⟩ := J3e hb3 (n := 2) (by omega) (by omega)
  have hd : ∃ s b', J1Z b4 = some (s, b') ∧ J03 b' := by
    unfold J1Z
    obtain ⟨r5, b5, e5, hb5, h51, h52⟩ := J3e hb4 (n := 5) (by omega) (by omega)
    obtain ⟨r6, b6, e6, hb6, _, _⟩ := J3e hb5 (n := 6) (by omega) (by omega)
    simp only [e5, e6, Option.bind_some]
    by_cases h6 : r6 = 0
    · obtain ⟨r7, b7, e7, hb7, h71, h72⟩ := J3e hb6 (n := 14) (by omega) (by omega)
      obtain ⟨s, b8, e8, hb8⟩ := Jh1 hb7 h71 (by omega)
      exact ⟨s, b8, by simp [h6, e7, e8], hb8⟩
    · obtain ⟨s, b8, e8, hb8⟩ := Jh1 hb6 h51 (by omega)
      exact ⟨s, b8, by simp [h6, e8], hb8⟩
  obtain ⟨s, b9, e9, hb9⟩ := hd
  obtain ⟨c, b10, e10, hb10, _⟩ := Jln hb3
  simp only [e2, e3, e4, e9, e10, Option.bind_some, Jbo hk, J7d _ k hk]
  split
  · exact ⟨_, _, rfl, hb2⟩
  · split
    · exact ⟨_, _, rfl, hb2⟩
    · split
      · exact ⟨_, _, rfl, hb9⟩
      · split
        · exact ⟨_, _, rfl, hb10⟩
        · exact ⟨_, _, rfl, hb1⟩
theorem JjV {α ρ : Type} {f : Int → Option (Int ⊕ ρ)} {l : List α} {out : ρ} (hl : l.length < 1000000) (h1 : ∀ (k : Nat) (h : k < l.length), f (k : Int) = some (.inl ((k + 1 : Nat) : Int))) (h2 : f (l.length : Int) = some (.inr out)) : JO f 0 = some out := by
  obtain ⟨b, hb, rfl⟩ := J2v (f := f) (fun q => ∃ j : Nat, q = j ∧ j ≤ l.length) (fun q => (l.length - q).toNat) (fun b => b = out) (fun q ⟨j, hj, h4⟩ => by
    subst hj
    by_cases hlt : j < l.length
    · left
      exact ⟨((j + 1 : Nat) : Int), h1 j hlt, ⟨j + 1, rfl, by omega⟩, by omega⟩
    · right
      obtain rfl : j = l.length := by omega
      exact ⟨out, h2, rfl⟩) 0 ⟨0, rfl, by omega⟩
  exact hb
end Go.Am
end
section
namespace Go.Am
set_option maxRecDepth 16000
theorem J0P {α : Type} {l : List α} {k : Nat} (h : k < l.length) : idx l (k : Int) = some l[k] := by
  rw [Jh9, List.getElem?_eq_getElem h]
end Go.Am
end
section
namespace Go.Am
set_option maxRecDepth 16000
end Go.Am
end
section
namespace Go.Am
set_option maxRecDepth 16000
theorem Jlz {α ρ : Type} {f : Int → Option (Int ⊕ ρ)} {l : List α} (p : α → Bool) (hit : Nat → ρ) (out : ρ) (hl : l.length < 1000000)
    (h1 : ∀ (k : Nat) (h : k < l.length), f (k : Int) = some (if p l[k] = true then .inr (hit k) else .inl ((k + 1 : Nat) : Int))) (h2 : f (l.length : Int) = some (.inr out)) :
    JO f 0 = some (match l.findIdx? p with
      | some k => hit k
      | none => out) := by
  have key : ∀ (n k : Nat), k + n = l.length → JO f (k : Int) = some (match (l.drop k).findIdx? p with
      | some j => hit (k + j)
      | none => out) := by
    intro n
    induction n with
    | zero =>
      intro k hk
      obtain rfl : k = l.length := by omega
      rw [J2j h2]
      simp
    | succ n ih =>
      intro k hk
      have hlt : k < l.length := by omega
      have e := h1 k hlt
      rw [List.drop_eq_getElem_cons hlt, List.findIdx?_cons]
      by_cases hp : p l[k] = true
      · rw [if_pos hp] at e
        rw [J2j e, if_pos hp]
        rfl
      · rw [if_neg hp] at e
        rw [J2U e, ih (k + 1) (by omega), if_neg hp]
        cases (l.drop (k + 1)).findIdx? p with
        | none => rfl
        | some j => simp only [Option.map_some]; congr 2; omega
  have := key l.length 0 (by omega)
  simpa using this
theorem JnG {ρ : Type} (c : Bool) (a b : ρ) : (if c = true then some a else some b) = some (if c = true then a else b) := by cases c <;> rfl
end Go.Am
end
section
namespace Go.Am
set_option maxRecDepth 16000
def Tot {ρ : Type} (o : Option ρ) (Q : ρ → Prop) : Prop := ∃ r, o = some r ∧ Q r
theorem Tot.bind {α ρ : Type} {o : Option α} {f : α → Option ρ} {Q : α → Prop} {R : ρ → Prop} (h : Tot o Q) (h2 : ∀ r, Q r → Tot (f r) R) : Tot (o.bind f) R := by
  obtain ⟨r, rfl, hq⟩ := h
  exact h2 r hq
theorem Tot.some {ρ : Type} {r : ρ} {Q : ρ → Prop} (h : Q r) : Tot (some r) Q := ⟨r, rfl, h⟩
theorem Tot.eq {α ρ : Type} {o : Option α} {f : α → Option ρ} {v : α} {R : ρ → Prop} (h : o = Option.some v) (h2 : Tot (f v) R) : Tot (o.bind f) R := by
  subst h; exact h2
theorem Tot.ite {ρ : Type} {c : Bool} {a b : Option ρ} {Q : ρ → Prop} (h1 : c = true → Tot a Q) (h2 : c = false → Tot b Q) : Tot (if c = true then a else b) Q := by
  cases c with
  | true => exact h1 rfl
  | false => exact h2 rfl
theorem Tot.both {ρ : Type} {c : Bool} {a b : Option ρ} {Q : ρ → Prop} (h1 : Tot a Q) (h2 : Tot b Q) : Tot (if c = true then a else b) Q := .ite (fun _ => h1) fun _ => h2
theorem Tot.mono {ρ : Type} {o : Option ρ} {Q R : ρ → Prop} (h : Tot o Q) (h2 : ∀ r, Q r → R r) : Tot o R := by
  obtain ⟨r, e, hq⟩ := h
  exact ⟨r, e, h2 r hq⟩
theorem Tot.map {α ρ : Type} {o : Option α} {f : α → ρ} {Q : α → Prop} {R : ρ → Prop} (h : Tot o Q) (h2 : ∀ r, Q r → R (f r)) : Tot (Option.map f o) R := by
  obtain ⟨r, rfl, hq⟩ := h
  exact ⟨f r, rfl, h2 r hq⟩
abbrev Drw {α : Type} (o : Option (α × T_pagemenddraw_Codes)) (Q : α → Prop) : Prop := Tot o fun r => J03 r.2 ∧ Q r.1
theorem Jpm {α : Type} {o : Option (α × T_pagemenddraw_Codes)} (h : ∃ x b', o = some (x, b') ∧ J03 b') : Drw o fun _ => True := by
  obtain ⟨x, b', rfl, h1⟩ := h
  exact ⟨_, rfl, h1, trivial⟩
section
variable {b : T_pagemenddraw_Codes} (hb : J03 b)
include hb
theorem J5s {n : Int} (h1 : 1 ≤ n) (h2 : n ≤ 256) : Drw (Jp b n) fun r => 0 ≤ r ∧ r < n := by
  obtain ⟨r, b', e, h3, h4, h5⟩ := J3e hb h1 h2
  exact ⟨_, e, h3, h4, h5⟩
theorem JuD {n : Int} (h1 : 1 ≤ n) (h2 : n ≤ 65536) : Drw (Jp b n) fun r => 0 ≤ r ∧ r < n := by
  obtain ⟨r, b', e, h3, h4, h5⟩ := Jtb hb h1 h2
  exact ⟨_, e, h3, h4, h5⟩
theorem JtB : Drw (J1N b) fun _ => True := Jpm (Jo9 hb)
end
end Go.Am
end
section
namespace Go.Am
set_option maxRecDepth 16000
set_option maxHeartbeats 2000000
theorem Jjf {ρ : Type} {f : Int → Option (Int ⊕ ρ)} {n : Nat} (q : Nat → Prop) (bad out : ρ) (hn : n < 1000000)
    (h1 : ∀ (k : Nat), k < n → (q k ∧ f (k : Int) = some (.inl ((k + 1 : Nat) : Int))) ∨ (¬ q k ∧ f (k : Int) = some (.inr bad))) (h2 : f (n : Int) = some (.inr out)) :
    (JO f 0 = some out ∧ ∀ k, k < n → q k) ∨ (JO f 0 = some bad ∧ ¬ ∀ k, k < n → q k) := by
  have key : ∀ (m k : Nat), k + m = n → (∀ j, j < k → q j) → (JO f (k : Int) = some out ∧ ∀ k, k < n → q k) ∨ (JO f (k : Int) = some bad ∧ ¬ ∀ k, k < n → q k) := by
    intro m
    induction m with
    | zero =>
      intro k hk hq
      obtain rfl : k = n := by omega
      exact .inl ⟨J2j h2, hq⟩
    | succ m ih =>
      intro k hk hq
      rcases h1 k (by omega) with ⟨a, e⟩ | ⟨a, e⟩
      · rw [J2U e]
        exact ih (k + 1) (by omega) fun j hj => by
          rcases Nat.lt_succ_iff_lt_or_eq.1 hj with h | rfl
          · exact hq j h
          · exact a
      · exact .inr ⟨J2j e, fun h => a (h k (by omega))⟩
  exact key n 0 (by omega) fun j hj => absurd hj (by omega)
def J5i (l : List T_api_Frame) (id : Int) : Option Nat := l.findIdx? fun f => f.Page.ID == id
def JcZ (o : Option Nat) : Int := match o with
  | some k => (k : Int)
  | none => -1
theorem Jar {p : T_api_Pool} (hl : p.Frames.length < 1000000) (id : Int) : J1M p id = some (JcZ (J5i p.Frames id)) := by
  have e : J08 p.Frames id = _ := Jlz (f := fun s => JM p.Frames (p.Frames.length : Int) id s) (l := p.Frames) (fun f => f.Page.ID == id) (fun k => (k : Int)) (-1) hl
    (fun k hk => by
      have e1 : ((k : Nat) : Int) < (p.Frames.length : Int) := by omega
      simp only [JM, e1, decide_true, if_true, J0P hk, Option.bind_some, J7M, JnG, J1R (show k < 1000000 by omega)])
    (by
      have e1 : ¬ ((p.Frames.length : Nat) : Int) < (p.Frames.length : Int) := by omega
      simp only [JM, e1, decide_false, Bool.false_eq_true, if_false, J0k, Option.map_some])
  simp only [J1M, e, Option.bind_some, J5i, JcZ]
  all_goals (cases p.Frames.findIdx? (fun f => f.Page.ID == id) <;> rfl)
structure JpE (f : T_api_Frame) : Prop where
  page : JbF f.Page
  d1 : f.Dirty = true → 1 ≤ f.Rec ∧ f.Rec ≤ f.Page.LSN
  d0 : f.Dirty = false → f.Rec = 0
structure Jaz (p : T_api_Pool) : Prop where
  s1 : 1 ≤ p.Size
  s2 : p.Size ≤ 64
  n : ((p.Frames.length : Nat) : Int) ≤ p.Size
  h0 : 0 ≤ p.Hand
  h1 : p.Hand < Jai 1 ((p.Frames.length : Nat) : Int)
  fr : ∀ (k : Nat) (h : k < p.Frames.length), JpE p.Frames[k]
  uq : ∀ (i j : Nat) (hi : i < p.Frames.length) (hj : j < p.Frames.length), p.Frames[i].Page.ID = p.Frames[j].Page.ID → i = j
theorem Jau {l : List T_api_Frame} {id : Int} {k : Nat} (h : J5i l id = some k) : ∃ hk : k < l.length, l[k].Page.ID = id := by
  obtain ⟨hk, h3, _⟩ := List.findIdx?_eq_some_iff_getElem.1 h
  exact ⟨hk, by simpa using h3⟩
theorem Jqv {l : List T_api_Frame} {id : Int} (h : J5i l id = none) {k : Nat} (hk : k < l.length) : l[k].Page.ID ≠ id := by
  unfold J5i at h
  rw [List.findIdx?_eq_none_iff] at h
  simpa using h _ (List.getElem_mem hk)
theorem Jfd {l : List T_api_Frame} {k : Nat} (hk : k < l.length) : ∃ j, J5i l l[k].Page.ID = some j ∧ j ≤ k := by
  cases h : J5i l l[k].Page.ID with
  | none => exact absurd rfl (Jqv h hk)
  | some j =>
    refine ⟨j, rfl, ?_⟩
    obtain ⟨hj, h3, h4⟩ := List.findIdx?_eq_some_iff_getElem.1 h
    rcases Nat.lt_or_ge k j with hlt | hge
    · exact absurd (h4 k hlt) (by simp)
    · exact hge
theorem JiO {l : List T_api_Frame} (uq : ∀ (i j : Nat) (hi : i < l.length) (hj : j < l.length), l[i].Page.ID = l[j].Page.ID → i = j) {k : Nat} (hk : k < l.length) : J5i l l[k].Page.ID = some k := by
  obtain ⟨j, hj, _⟩ := Jfd hk
  obtain ⟨hj', e⟩ := Jau hj
  rw [hj, uq j k hj' hk e]
def Rq (l : List T_api_Frame) (k : Nat) : Prop := ∃ h : k < l.length, JpE l[k] ∧ J5i l l[k].Page.ID = some k
theorem Jww {l : List T_api_Frame} (h : ∀ k, k < l.length → Rq l k) : ∀ (i j : Nat) (hi : i < l.length) (hj : j < l.length), l[i].Page.ID = l[j].Page.ID → i = j := by
  intro i j hi hj e
  obtain ⟨_, _, h1⟩ := h i hi
  obtain ⟨_, _, h2⟩ := h j hj
  rw [e, h2] at h1
  injection h1 with h1
  exact h1.symm
theorem Jjg {p : T_api_Pool} (s1 : 1 ≤ p.Size) (s2 : p.Size ≤ 64) (n : ((p.Frames.length : Nat) : Int) ≤ p.Size) (h0 : 0 ≤ p.Hand) (h1 : p.Hand < Jai 1 ((p.Frames.length : Nat) : Int)) :
    (∀ k, k < p.Frames.length → Rq p.Frames k) ↔ Jaz p := by
  constructor
  · intro h
    exact ⟨s1, s2, n, h0, h1, fun k hk => let ⟨_, a, _⟩ := h k hk; a, Jww h⟩
  · intro h k hk
    exact ⟨hk, h.fr k hk, JiO h.uq hk⟩
theorem JdN (p : T_api_Pool) : ∃ b, J0J p = some b ∧ (b = true ↔ Jaz p) := by
  unfold J0J
  by_cases c1 : p.Size < 1
  · exact ⟨false, by simp only [c1, decide_true, if_true], by simp; intro h; have := h.s1; omega⟩
  by_cases c2 : p.Size > 64
  · exact ⟨false, by simp only [c1, c2, decide_true, decide_false, Bool.false_eq_true, if_true, if_false], by simp; intro h; have := h.s2; omega⟩
  by_cases c3 : ((p.Frames.length : Nat) : Int) > p.Size
  · exact ⟨false, by simp only [c1, c2, c3, decide_true, decide_false, Bool.false_eq_true, if_true, if_false], by simp; intro h; have := h.n; omega⟩
  by_cases c4 : p.Hand < 0
  · exact ⟨false, by simp only [c1, c2, c3, c4, decide_true, decide_false, Bool.false_eq_true, if_true, if_false], by simp; intro h; have := h.h0; omega⟩
  by_cases c5 : p.Hand ≥ Jai 1 ((p.Frames.length : Nat) : Int)
  · exact ⟨false, by simp only [c1, c2, c3, c4, c5, decide_true, decide_false, Bool.false_eq_true, if_true, if_false], by simp; intro h; have := h.h1; omega⟩
  simp only [c1, c2, c3, c4, c5, decide_false, Bool.false_eq_true, if_false]
  have hiff := Jjg (p := p) (by omega) (by omega) (by omega) (by omega) (by omega)
  have hlt : p.Frames.length < 1000000 := by omega
  have key := Jjf (f := fun s => J5g p.Frames (p.Frames.length : Int) p s) (n := p.Frames.length) (Rq p.Frames) false true hlt
    (fun k hk => by
      have e1 : ((k : Nat) : Int) < (p.Frames.length : Int) := by omega
      obtain ⟨b, hb, hbi⟩ := JlB p.Frames[k].Page
      simp only [J5g, e1, decide_true, if_true, J0P hk, Option.bind_some, hb, Jar hlt, J1R (show k < 1000000 by omega)]
      obtain ⟨j, hj, _⟩ := Jfd hk
      simp only [hj, JcZ]
      cases hb0 : b with
      | false =>
        right
        refine ⟨fun ⟨_, a, _⟩ => ?_, by simp only [Bool.false_eq_true, if_false]⟩
        have := hbi.2 a.page
        rw [hb0] at this; cases this
      | true =>
        have hpg := hbi.1 hb0
        simp only [if_true]
        by_cases hjk : j = k
        · subst hjk
          have d : (((j : Nat) : Int) != ((j : Nat) : Int)) = false := by simp
          simp only [d, Bool.false_eq_true, if_false]
          cases hd : p.Frames[j].Dirty with
          | true =>
            simp only [if_true]
            by_cases r1 : p.Frames[j].Rec < 1
            · exact .inr ⟨fun ⟨_, a, _⟩ => by have := (a.d1 hd).1; omega, by simp only [r1, decide_true, if_true]⟩
            · by_cases r2 : p.Frames[j].Rec > p.Frames[j].Page.LSN
              · exact .inr ⟨fun ⟨_, a, _⟩ => by have := (a.d1 hd).2; omega, by simp only [r1, r2, decide_true, decide_false, Bool.false_eq_true, if_true, if_false]⟩
              · exact .inl ⟨⟨hk, ⟨hpg, fun _ => ⟨by omega, by omega⟩, fun h => by rw [hd] at h; cases h⟩, hj⟩, by simp only [r1, r2, decide_false, Bool.false_eq_true, if_false]⟩
          | false =>
            simp only [Bool.false_eq_true, if_false]
            by_cases r1 : p.Frames[j].Rec = 0
            · have d2 : (p.Frames[j].Rec != 0) = false := by simpa using r1
              exact .inl ⟨⟨hk, ⟨hpg, (fun h => by rw [hd] at h; cases h), fun _ => r1⟩, hj⟩, by simp only [d2, Bool.false_eq_true, if_false]⟩
            · have d2 : (p.Frames[j].Rec != 0) = true := by simpa using r1
              exact .inr ⟨fun ⟨_, a, _⟩ => r1 (a.d0 hd), by simp only [d2, if_true]⟩
        · have d : (((j : Nat) : Int) != ((k : Nat) : Int)) = true := by simp; omega
          exact .inr ⟨fun ⟨_, _, a⟩ => by rw [hj] at a; injection a with a; exact hjk a, by simp only [d, if_true]⟩)
    (by
      have e1 : ¬ ((p.Frames.length : Nat) : Int) < (p.Frames.length : Int) := by omega
      simp only [J5g, e1, decide_false, Bool.false_eq_true, if_false, J9z, Option.map_some])
  rcases key with ⟨e, h⟩ | ⟨e, h⟩
  · exact ⟨true, e, by simpa using hiff.1 h⟩
  · exact ⟨false, e, by simpa using fun h2 => h (hiff.2 h2)⟩
theorem JjA {p : T_api_Pool} (h : Jaz p) : J0J p = some true := by
  obtain ⟨b, e, hb⟩ := JdN p
  rw [e, hb.2 h]
theorem Jaq {l : List T_api_Frame} (h : l.length ≤ 1000) : J0j l = some l := by
  have e : (2 * l.length + 512) * 424 ≤ 281474976710656 := by omega
  unfold J0j
  rw [if_pos e]
theorem Jaz.len {p : T_api_Pool} (h : Jaz p) : p.Frames.length ≤ 64 := by
  have := h.n; have := h.s2; omega
theorem Jgy {l : List T_api_Frame} (h : l.length ≤ 1000) {k : Nat} (hk : k < l.length) (f : T_api_Frame) : J17 l (k : Int) f = some (l.set k f) := by
  simp only [J17, Jaq h, Option.bind_some, J0P hk, Int.toNat_natCast]
end Go.Am
end
section
namespace Go.Am
set_option maxRecDepth 16000
set_option maxHeartbeats 2000000
abbrev Jcr : Vector Jk 16 := Vector.replicate 16 (⟨false, []⟩ : Jk)
def fr0 (b i : Nat) (u : Bool) : T_api_Frame := ⟨⟨((b + i : Nat) : Int), 0, Jcr⟩, false, 0, u⟩
def frs (b : Nat) (l : List Bool) : List T_api_Frame := l.mapIdx fun i u => fr0 b i u
theorem J9C (b : Nat) (l : List Bool) : (frs b l).length = l.length := by simp [frs]
theorem J9t {b : Nat} {l : List Bool} {k : Nat} (h : k < l.length) : (frs b l)[k]'(by rw [J9C]; exact h) = fr0 b k l[k] := by simp [frs]
theorem Jv7 (b : Nat) (l : List Bool) (k : Nat) (u : Bool) : (frs b l).set k (fr0 b k u) = frs b (l.set k u) := by
  apply List.ext_getElem
  · simp [frs]
  · intro i h1 h2
    rw [List.getElem_set]
    simp only [frs, List.getElem_mapIdx, List.getElem_set]
    split
    · rename_i e; subst e; simp
    · simp [*]
theorem JsE (b : Nat) (l : List Bool) (u : Bool) : frs b l ++ [fr0 b l.length u] = frs b (l ++ [u]) := by simp [frs, List.mapIdx_append]
def plz (b n : Nat) (l : List Bool) (h : Nat) : T_api_Pool := ⟨(n : Int), frs b l, (h : Int)⟩
theorem Jr6 {b n : Nat} {l : List Bool} {h : Nat} (h1 : 1 ≤ n) (h2 : b + n ≤ 64) (hl : l.length ≤ n) (hh : h < max 1 l.length) : Jaz (plz b n l h) := by
  have e := J9C b l
  refine ⟨by show (1 : Int) ≤ n; omega, by show (n : Int) ≤ 64; omega, by show (((frs b l).length : Nat) : Int) ≤ n; omega, by show (0 : Int) ≤ h; omega, ?_, fun k hk => ?_, fun i j hi hj he => ?_⟩
  · show (h : Int) < Jai 1 (((frs b l).length : Nat) : Int)
    unfold Jai
    split <;> omega
  · have hk' : k < l.length := by rw [← e]; exact hk
    have : (plz b n l h).Frames[k] = fr0 b k l[k] := J9t hk'
    rw [this]
    exact ⟨JnH (by show (0 : Int) ≤ ((b + k : Nat) : Int); omega) (by show ((b + k : Nat) : Int) < 64; omega) (by omega) (by omega), (fun h => by cases h), fun _ => rfl⟩
  · have hi' : i < l.length := by rw [← e]; exact hi
    have hj' : j < l.length := by rw [← e]; exact hj
    have ei : (plz b n l h).Frames[i] = fr0 b i l[i] := J9t hi'
    have ej : (plz b n l h).Frames[j] = fr0 b j l[j] := J9t hj'
    rw [ei, ej] at he
    have he : ((b + i : Nat) : Int) = ((b + j : Nat) : Int) := he
    omega
theorem Jt7 {b n : Nat} {l : List Bool} {h k : Nat} (hl : l.length ≤ 64) : J1M (plz b n l h) ((b + k : Nat) : Int) = some (if k < l.length then (k : Int) else -1) := by
  have e := J9C b l
  rw [Jar (by show (frs b l).length < _; omega)]
  by_cases hk : k < l.length
  · have h3 := JiO (l := frs b l) (fun i j hi hj he => by
      rw [J9t (by omega), J9t (by omega)] at he
      have he : ((b + i : Nat) : Int) = ((b + j : Nat) : Int) := he
      omega) (k := k) (by omega)
    rw [J9t hk] at h3
    have h3 : J5i (plz b n l h).Frames ((b + k : Nat) : Int) = some k := h3
    rw [h3, if_pos hk]; rfl
  · have h3 : J5i (frs b l) ((b + k : Nat) : Int) = none := by
      unfold J5i
      rw [List.findIdx?_eq_none_iff]
      intro x hx
      obtain ⟨i, hi, rfl⟩ := List.getElem_of_mem hx
      rw [J9t (by omega)]
      have : ((b + i : Nat) : Int) ≠ ((b + k : Nat) : Int) := by omega
      simpa [fr0] using this
    have h3 : J5i (plz b n l h).Frames ((b + k : Nat) : Int) = none := h3
    rw [h3, if_neg hk]; rfl
theorem JlI {l : List T_api_Frame} {f : T_api_Frame} (h : l.length ≤ 1000) : Jg9 424 l [f] = some (l ++ [f]) := by
  have e : 0 < [f].length ∧ J3h (l.length + [f].length) 424 = true := by
    refine ⟨by simp, ?_⟩
    simp only [J3h, List.length_cons, List.length_nil]
    simp; omega
  unfold Jg9
  rw [if_pos e]
theorem Jpq {b n : Nat} {l : List Bool} (h1 : 1 ≤ n) (h2 : b + n ≤ 64) (hl : l.length < n) : J20 (plz b n l 0) ⟨((b + l.length : Nat) : Int), 0, Jcr⟩ = some (plz b n (l ++ [true]) 0, 0) := by
  have e := J9C b l
  have ok := Jr6 (b := b) (n := n) (l := l) (h := 0) h1 h2 (by omega) (by omega)
  have a1 := Jlu (p := ⟨((b + l.length : Nat) : Int), 0, Jcr⟩) (JnH (by omega) (by omega) (by omega) (by omega))
  have a2 := Jt7 (b := b) (n := n) (l := l) (h := 0) (k := l.length) (by omega)
  rw [if_neg (by omega)] at a2
  have d0 : ((0 : Int) != 0) = false := rfl
  have d1 : ¬ ((-1 : Int) ≥ 0) := by omega
  have d2 : ((((plz b n l 0).Frames.length : Nat) : Int) == (plz b n l 0).Size) = false := by
    have : (((frs b l).length : Nat) : Int) ≠ (n : Int) := by omega
    simpa [plz] using this
  have a3 : Jg9 424 (plz b n l 0).Frames [fr0 b l.length true] = some (frs b l ++ [fr0 b l.length true]) := JlI (by show (frs b l).length ≤ 1000; omega)
  have a3 : Jg9 424 (plz b n l 0).Frames ([(⟨⟨((b + l.length : Nat) : Int), 0, Jcr⟩, false, 0, true⟩ : T_api_Frame)] : List T_api_Frame) = some (frs b (l ++ [true])) := by rw [← JsE]; exact a3
  simp only [J20, JjA ok, a1, a2, d0, d1, d2, decide_false, Option.bind_some, if_true, Bool.false_eq_true, if_false, J0p, a3]
  rfl
def clr (l : List Bool) (k : Nat) : List Bool := List.replicate k false ++ l.drop k
theorem JkU {l : List Bool} {k : Nat} (h : k ≤ l.length) : (clr l k).length = l.length := by simp [clr]; omega
theorem JpM {l : List Bool} {k : Nat} (h : k < l.length) : (clr l k)[k]'(by rw [JkU (by omega)]; exact h) = l[k] := by
  simp [clr]
theorem Jsx (l : List Bool) : clr l 0 = l := by simp [clr]
theorem JuN {l : List Bool} {k : Nat} (h : k < l.length) : (clr l k).set k false = clr l (k + 1) := by
  unfold clr
  rw [List.drop_eq_getElem_cons h, List.set_append_right _ _ (by simp), List.length_replicate, Nat.sub_self, List.set_cons_zero, List.replicate_succ', List.append_assoc]
  rfl
def Joi (l : List Bool) : Nat := match l.findIdx? fun u => !u with
  | some j => j
  | none => 0
def after (l : List Bool) : List Bool := match l.findIdx? fun u => !u with
  | some j => clr l j
  | none => List.replicate l.length false
theorem Joc {b n : Nat} {l : List Bool} (h1 : 1 ≤ n) (h2 : b + n ≤ 64) (hl : l.length ≤ n) (h0 : 0 < l.length) :
    J1z (plz b n l 0) = some (plz b n (after l) (Joi l), ((b + Joi l : Nat) : Int), 0) := by
  have e := J9C b l
  have ok := Jr6 (b := b) (n := n) (l := l) (h := 0) h1 h2 hl (by omega)
  have d0 : ((((plz b n l 0).Frames.length : Nat) : Int) == 0) = false := by
    have : (((frs b l).length : Nat) : Int) ≠ 0 := by omega
    simpa [plz] using this
  have step : ∀ k, k < l.length → (l[k]? = some true) → (fun s : Int × List T_api_Frame => J1G (n : Int) (⟨0, ([] : List T_api_Frame), 0⟩ : T_api_Pool) s.1 s.2) ((k : Int), frs b (clr l k)) = some (.inl ((((k + 1) % l.length : Nat) : Int), frs b (clr l (k + 1)))) := by
    intro k hk hu
    have hc := JkU (l := l) (k := k) (by omega)
    have i1 : idx (frs b (clr l k)) (k : Int) = some (fr0 b k true) := by
      rw [J0P (by rw [J9C]; omega), J9t (by omega), JpM hk]
      rw [List.getElem?_eq_getElem hk] at hu
      injection hu with hu
      rw [hu]
    have w1 : IntKind.wrap .i64 ((k : Int) + 1) = ((k + 1 : Nat) : Int) := J1R (by omega)
    have r1 : Jbm ((k + 1 : Nat) : Int) (((frs b (clr l k)).length : Nat) : Int) = some (((k + 1) % l.length : Nat) : Int) := by
      unfold Jbm
      rw [if_neg (by rw [J9C]; omega), J9C, hc]
      rfl
    have s1 : (frs b (clr l k)).set k (fr0 b k false) = frs b (clr l (k + 1)) := by rw [Jv7, JuN hk]
    have hu' : (fr0 b k true).Used = true := rfl
    simp only [J1G, i1, Option.bind_some, hu', if_true, w1, r1, Int.toNat_natCast]
    have : (⟨(fr0 b k true).Page, (fr0 b k true).Dirty, (fr0 b k true).Rec, false⟩ : T_api_Frame) = fr0 b k false := rfl
    rw [this, s1]
  have run : ∀ m k, k + m < l.length → (∀ i, k ≤ i → i < k + m → l[i]? = some true) → J4o (n : Int) (⟨0, ([] : List T_api_Frame), 0⟩ : T_api_Pool) ((k : Int), frs b (clr l k)) = J4o (n : Int) (⟨0, ([] : List T_api_Frame), 0⟩ : T_api_Pool) (((k + m : Nat) : Int), frs b (clr l (k + m))) := by
    intro m
    induction m with
    | zero => intro k _ _; rfl
    | succ m ih =>
      intro k hk hu
      have e1 := step k (by omega) (hu k (Nat.le_refl _) (by omega))
      rw [Nat.mod_eq_of_lt (by omega)] at e1
      have := ih (k + 1) (by omega) fun i h3 h4 => hu i (by omega) (by omega)
      rw [show k + 1 + m = k + (m + 1) by omega] at this
      exact (J2U e1).trans this
  have fin : ∀ (k : Nat) (l' : List Bool), l'.length = l.length → k < l'.length → l'[k]? = some false → J4o (n : Int) (⟨0, ([] : List T_api_Frame), 0⟩ : T_api_Pool) ((k : Int), frs b l') = some (plz b n l' k, ((b + k : Nat) : Int), 0) := by
    intro k l' hl' hk hu
    have i1 : idx (frs b l') (k : Int) = some (fr0 b k false) := by
      rw [J0P (by rw [J9C]; omega), J9t hk]
      rw [List.getElem?_eq_getElem hk] at hu
      injection hu with hu
      rw [hu]
    refine J2j (f := fun s : Int × List T_api_Frame => J1G (n : Int) (⟨0, ([] : List T_api_Frame), 0⟩ : T_api_Pool) s.1 s.2) ?_
    have hu' : (fr0 b k false).Used = false := rfl
    simp only [J1G, i1, Option.bind_some, hu', Bool.false_eq_true, if_false, J5y, Option.map_some]
    rfl
  have w : J4o (n : Int) (⟨0, ([] : List T_api_Frame), 0⟩ : T_api_Pool) (0, frs b l) = some (plz b n (after l) (Joi l), ((b + Joi l : Nat) : Int), 0) := by
    have z : (0, frs b l) = (((0 : Nat) : Int), frs b (clr l 0)) := by rw [Jsx]; rfl
    rw [z]
    unfold after Joi
    cases hf : l.findIdx? (fun u => !u) with
    | some j =>
      obtain ⟨hj, h3, h4⟩ := List.findIdx?_eq_some_iff_getElem.1 hf
      have r := run j 0 (by omega) fun i _ hi => by
        rw [List.getElem?_eq_getElem (by omega)]
        have := h4 i (by omega)
        simpa using this
      rw [r]
      simp only [Nat.zero_add]
      have hc := JkU (l := l) (k := j) (by omega)
      refine fin j (clr l j) hc (by omega) ?_
      rw [List.getElem?_eq_getElem (by omega), JpM hj]
      simpa using h3
    | none =>
      rw [List.findIdx?_eq_none_iff] at hf
      have hall : ∀ i, i < l.length → l[i]? = some true := fun i hi => by
        rw [List.getElem?_eq_getElem hi]
        have := hf _ (List.getElem_mem hi)
        simpa using this
      have r := run (l.length - 1) 0 (by omega) fun i _ hi => hall i (by omega)
      rw [r]
      simp only [Nat.zero_add]
      have e1 := step (l.length - 1) (by omega) (hall _ (by omega))
      rw [show l.length - 1 + 1 = l.length by omega, Nat.mod_self] at e1
      have hcl : clr l l.length = List.replicate l.length false := by simp [clr]
      rw [hcl] at e1
      refine (J2U e1).trans ?_
      exact fin 0 (List.replicate l.length false) (by simp) (by simpa using h0) (by simp [h0])
  simp only [J1z, JjA ok, Option.bind_some, if_true, d0, Bool.false_eq_true, if_false, Jaq (l := (plz b n l 0).Frames) (by show (frs b l).length ≤ 1000; omega)]
  exact w
theorem JrU (p : T_api_Pool) (h : p.Frames.length < 1000000) : J1K p p = some true := by
  have e : Jbf p p 0 = some true := by
    refine JjV (f := fun s => J5a p p s) (l := p.Frames) h (fun k hk => ?_) ?_
    · have e1 : ((k : Nat) : Int) < (p.Frames.length : Int) := by omega
      simp only [J5a, e1, decide_true, if_true, J0P hk, Option.bind_some, beq_self_eq_true, J1R (show k < 1000000 by omega)]
    · have e1 : ¬ ((p.Frames.length : Nat) : Int) < (p.Frames.length : Int) := by omega
      simp only [J5a, e1, decide_false, Bool.false_eq_true, if_false, J9E, Option.map_some]
  simp only [J1K, bne_self_eq_false, Bool.false_eq_true, if_false, e]
end Go.Am
end
section
namespace Go.Am
set_option maxRecDepth 16000
set_option maxHeartbeats 2000000
theorem JrX {n : Nat} (h1 : 1 ≤ n) (h2 : n ≤ 64) : J4s (n : Int) = some (plz 0 n [] 0, 0) := by
  have c1 : ¬ (n : Int) < 1 := by omega
  have c2 : ¬ (n : Int) > 64 := by omega
  simp only [J4s, c1, c2, decide_false, Bool.false_eq_true, if_false]
  rfl
theorem Jq1 : J5L = some true := by
  have a1 : J4s 2 = some (plz 1 2 [] 0, 0) := JrX (n := 2) (by omega) (by omega)
  have a2 : J20 (plz 1 2 [] 0) ⟨1, 0, Jcr⟩ = some (plz 1 2 [true] 0, 0) := Jpq (b := 1) (n := 2) (l := []) (by omega) (by omega) (by simp)
  have a3 : J20 (plz 1 2 [true] 0) ⟨2, 0, Jcr⟩ = some (plz 1 2 [true, true] 0, 0) := Jpq (b := 1) (n := 2) (l := [true]) (by omega) (by omega) (by simp)
  have a4 : J1z (plz 1 2 [true, true] 0) = some (plz 1 2 [false, false] 0, 1, 0) := Joc (b := 1) (n := 2) (l := [true, true]) (by omega) (by omega) (by simp) (by simp)
  have d0 : ((0 : Int) == 0) = true := rfl
  have d1 : ((1 : Int) == 1) = true := rfl
  have d2 : ((((plz 1 2 [false, false] 0).Frames.length : Nat) : Int) == 2) = true := rfl
  have i0 : idx (plz 1 2 [false, false] 0).Frames 0 = some (fr0 1 0 false) := rfl
  have i1 : idx (plz 1 2 [false, false] 0).Frames 1 = some (fr0 1 1 false) := rfl
  have u0 : (fr0 1 0 false).Used = false := rfl
  have u1 : (fr0 1 1 false).Used = false := rfl
  unfold J5L
  simp only [a1, a2, a3, a4, d0, d1, d2, i0, i1, u0, u1, Option.bind_some, if_true, Bool.false_eq_true, if_false, Bool.not_false]
section
end
end Go.Am
end
section
namespace Go.Am
set_option maxRecDepth 16000
set_option maxHeartbeats 2000000
theorem JqX {l : List T_api_Frame} {k : Nat} (h : k < l.length) (hl : l.length ≤ 1000) : J1Q l (k : Int) (IntKind.wrap .i64 ((k : Int) + 1)) = some (l.eraseIdx k) := by
  rw [J1R (by omega)]
  have e : (0 : Int) ≤ (k : Int) ∧ (k : Int) ≤ ((k + 1 : Nat) : Int) ∧ ((k + 1 : Nat) : Int) ≤ ((l.length : Nat) : Int) := by omega
  unfold J1Q Jiv
  rw [if_pos e, List.eraseIdx_eq_take_drop_succ, Int.toNat_natCast, Int.toNat_natCast]
end Go.Am
end
section
namespace Go.Am
set_option maxRecDepth 16000
set_option maxHeartbeats 2000000
set_option linter.unusedSectionVars false
section
end
end Go.Am
end
section
namespace Go.Am
set_option maxRecDepth 16000
set_option maxHeartbeats 2000000
theorem JbB {p : T_api_Pool} (hl : p.Frames.length < 1000000) (id : Int) : J1C p id = some (JcZ (J5i p.Frames id)) := by
  have e : Jbq id p 0 = _ := Jlz (f := fun s => J55 id p s) (l := p.Frames) (fun f => f.Page.ID == id) (fun k => (k : Int)) (-1) hl
    (fun k hk => by
      have e1 : ((k : Nat) : Int) < (p.Frames.length : Int) := by omega
      simp only [J55, e1, decide_true, if_true, J0P hk, Option.bind_some, JnG, J1R (show k < 1000000 by omega)])
    (by
      have e1 : ¬ ((p.Frames.length : Nat) : Int) < (p.Frames.length : Int) := by omega
      simp only [J55, e1, decide_false, Bool.false_eq_true, if_false, J9w, Option.map_some])
  simp only [J1C, e, J5i, JcZ]
  all_goals (cases p.Frames.findIdx? (fun f => f.Page.ID == id) <;> rfl)
theorem Ji8 {l : List T_api_Frame} {k : Nat} (hk : k < l.length) : J5i l l[k].Page.ID = some k ↔ ∀ j, (h : j < k) → l[j].Page.ID ≠ l[k].Page.ID := by
  constructor
  · intro h j hj e
    obtain ⟨i, h1, h2⟩ := Jfd (l := l) (k := j) (by omega)
    rw [e, h] at h1
    injection h1 with h1
    omega
  · intro h
    obtain ⟨i, h1, h2⟩ := Jfd hk
    obtain ⟨hi, h3⟩ := Jau h1
    by_cases e : i = k
    · rw [h1, e]
    · exact absurd h3 (h i (by omega))
theorem JkJ (p : T_api_Pool) : ∃ b, J0D p = some b ∧ (b = true ↔ Jaz p) := by
  unfold J0D
  by_cases c1 : p.Size < 1
  · exact ⟨false, by simp only [c1, decide_true, if_true], by simp; intro h; have := h.s1; omega⟩
  by_cases c2 : p.Size > 64
  · exact ⟨false, by simp only [c1, c2, decide_true, decide_false, Bool.false_eq_true, if_true, if_false], by simp; intro h; have := h.s2; omega⟩
  by_cases c3 : ((p.Frames.length : Nat) : Int) > p.Size
  · exact ⟨false, by simp only [c1, c2, c3, decide_true, decide_false, Bool.false_eq_true, if_true, if_false], by simp; intro h; have := h.n; omega⟩
  by_cases c4 : p.Hand < 0
  · exact ⟨false, by simp only [c1, c2, c3, c4, decide_true, decide_false, Bool.false_eq_true, if_true, if_false], by simp; intro h; have := h.h0; omega⟩
  have w : IntKind.wrap .i64 (((p.Frames.length : Nat) : Int) - 1) = ((p.Frames.length : Nat) : Int) - 1 := J7E (by omega) (by omega)
  have hm : p.Hand > Jai 0 (((p.Frames.length : Nat) : Int) - 1) ↔ ¬ p.Hand < Jai 1 ((p.Frames.length : Nat) : Int) := by
    unfold Jai
    split <;> split <;> omega
  by_cases c5 : p.Hand > Jai 0 (((p.Frames.length : Nat) : Int) - 1)
  · exact ⟨false, by simp only [w, c1, c2, c3, c4, c5, decide_true, decide_false, Bool.false_eq_true, if_true, if_false], by simp; intro h; exact hm.1 c5 h.h1⟩
  simp only [w, c1, c2, c3, c4, c5, decide_false, Bool.false_eq_true, if_false]
  have c5' : p.Hand < Jai 1 ((p.Frames.length : Nat) : Int) := by
    by_cases h : p.Hand < Jai 1 ((p.Frames.length : Nat) : Int)
    · exact h
    · exact absurd (hm.2 h) c5
  have hiff := Jjg (p := p) (by omega) (by omega) (by omega) (by omega) c5'
  have hlt : p.Frames.length < 1000000 := by omega
  have key := Jjf (f := fun s => J4p (p.Frames.length : Int) p s) (n := p.Frames.length) (Rq p.Frames) false true hlt
    (fun k hk => by
      have e1 : ((k : Nat) : Int) < (p.Frames.length : Int) := by omega
      obtain ⟨b, hb, hbi⟩ := JlB p.Frames[k].Page
      have inner := Jjf (f := fun s => J4d (p.Frames.length : Int) (k : Int) p p.Frames[k] s) (n := k) (fun j => ∀ h : j < k, p.Frames[j].Page.ID ≠ p.Frames[k].Page.ID) (.inr false : Int ⊕ Bool) (.inl ((k + 1 : Nat) : Int)) (by omega)
        (fun j hj => by
          have e2 : ((j : Nat) : Int) < (k : Int) := by omega
          simp only [J4d, e2, decide_true, if_true, J0P (show j < p.Frames.length by omega), Option.bind_some]
          by_cases e3 : p.Frames[j].Page.ID = p.Frames[k].Page.ID
          · have e4 : (p.Frames[j].Page.ID == p.Frames[k].Page.ID) = true := by simpa using e3
            exact .inr ⟨fun h => h hj e3, by simp only [e4, if_true]⟩
          · have e4 : (p.Frames[j].Page.ID == p.Frames[k].Page.ID) = false := by simpa using e3
            exact .inl ⟨fun _ => e3, by simp only [e4, Bool.false_eq_true, if_false, J1R (show j < 1000000 by omega)]⟩)
        (by
          have e2 : ¬ ((k : Nat) : Int) < (k : Int) := by omega
          simp only [J4d, e2, decide_false, Bool.false_eq_true, if_false, J8X, Option.map_some, J1R (show k < 1000000 by omega)])
      have inner : (J6S (p.Frames.length : Int) (k : Int) p p.Frames[k] 0 = some (.inl ((k + 1 : Nat) : Int)) ∧ J5i p.Frames p.Frames[k].Page.ID = some k) ∨ (J6S (p.Frames.length : Int) (k : Int) p p.Frames[k] 0 = some (.inr false) ∧ ¬ J5i p.Frames p.Frames[k].Page.ID = some k) := by
        rcases inner with ⟨a, h⟩ | ⟨a, h⟩
        · exact .inl ⟨a, (Ji8 hk).2 fun j hj => h j hj hj⟩
        · exact .inr ⟨a, fun h2 => h fun j hj _ => (Ji8 hk).1 h2 j hj⟩
      simp only [J4p, e1, decide_true, if_true, J0P hk, Option.bind_some, JrL, hb]
      cases hb0 : b with
      | false =>
        right
        refine ⟨fun ⟨_, a, _⟩ => ?_, by simp only [Bool.false_eq_true, if_false]⟩
        have := hbi.2 a.page
        rw [hb0] at this; cases this
      | true =>
        have hpg := hbi.1 hb0
        simp only [if_true]
        cases hd : p.Frames[k].Dirty with
        | true =>
          simp only [if_true]
          by_cases r1 : p.Frames[k].Rec < 1
          · exact .inr ⟨fun ⟨_, a, _⟩ => by have := (a.d1 hd).1; omega, by simp only [r1, decide_true, if_true]⟩
          · by_cases r2 : p.Frames[k].Rec > p.Frames[k].Page.LSN
            · exact .inr ⟨fun ⟨_, a, _⟩ => by have := (a.d1 hd).2; omega, by simp only [r1, r2, decide_true, decide_false, Bool.false_eq_true, if_true, if_false]⟩
            · simp only [r1, r2, decide_false, Bool.false_eq_true, if_false]
              rcases inner with ⟨a, h⟩ | ⟨a, h⟩
              · exact .inl ⟨⟨hk, ⟨hpg, fun _ => ⟨by omega, by omega⟩, fun h => by rw [hd] at h; cases h⟩, h⟩, a⟩
              · exact .inr ⟨fun ⟨_, _, h2⟩ => h h2, a⟩
        | false =>
          simp only [Bool.false_eq_true, if_false]
          by_cases r1 : p.Frames[k].Rec = 0
          · have d2 : (p.Frames[k].Rec != 0) = false := by simpa using r1
            simp only [d2, Bool.false_eq_true, if_false]
            rcases inner with ⟨a, h⟩ | ⟨a, h⟩
            · exact .inl ⟨⟨hk, ⟨hpg, (fun h => by rw [hd] at h; cases h), fun _ => r1⟩, h⟩, a⟩
            · exact .inr ⟨fun ⟨_, _, h2⟩ => h h2, a⟩
          · have d2 : (p.Frames[k].Rec != 0) = true := by simpa using r1
            exact .inr ⟨fun ⟨_, a, _⟩ => r1 (a.d0 hd), by simp only [d2, if_true]⟩)
    (by
      have e1 : ¬ ((p.Frames.length : Nat) : Int) < (p.Frames.length : Int) := by omega
      simp only [J4p, e1, decide_false, Bool.false_eq_true, if_false, J8P, Option.map_some])
  rcases key with ⟨e, h⟩ | ⟨e, h⟩
  · exact ⟨true, e, by simpa using hiff.1 h⟩
  · exact ⟨false, e, by simpa using fun h2 => h (hiff.2 h2)⟩
theorem J7m (p : T_api_Pool) : (Jaz p ∧ J0J p = some true ∧ J0D p = some true) ∨ (J0J p = some false ∧ J0D p = some false) := by
  obtain ⟨a, h1, h2⟩ := JdN p
  obtain ⟨b, h3, h4⟩ := JkJ p
  cases a with
  | true => have h := h2.1 rfl; exact .inl ⟨h, h1, by rw [h3, h4.2 h]⟩
  | false =>
    cases b with
    | true => have := h2.2 (h4.1 rfl); cases this
    | false => exact .inr ⟨h1, h3⟩
theorem Jcp {l : List T_api_Frame} (h : l.length ≤ 1000) : Jf2 424 l = some l := by
  have e : J3h l.length 424 = true := by simp [J3h]; omega
  unfold Jf2
  rw [if_pos e]
theorem JeK {p : T_api_Pool} (h : p.Frames.length ≤ 64) {k : Nat} (hk : k < p.Frames.length) (f : T_api_Frame) : J3N p (k : Int) f = some ⟨p.Size, p.Frames.set k f, p.Hand⟩ := by
  simp only [J3N, Jcp (show p.Frames.length ≤ 1000 by omega), J0P hk, Option.bind_some, Int.toNat_natCast]
theorem Jsz (p : T_api_Pool) (id : Int) : ∃ r, J1w p id = some r ∧ J1c p id = some r := by
  rcases J7m p with ⟨hp, h1, h2⟩ | ⟨h1, h2⟩
  · have hl := hp.len
    simp only [J1w, J1c, h1, h2, Option.bind_some, if_true, Jar (show p.Frames.length < 1000000 by omega), JbB (show p.Frames.length < 1000000 by omega)]
    exact ⟨_, rfl, rfl⟩
  · simp only [J1w, J1c, h1, h2, Option.bind_some, Bool.false_eq_true, if_false]
    exact ⟨_, rfl, rfl⟩
theorem Jaf {p : T_api_Pool} (hp : Jaz p) (id : Int) : (J1M p id = some (-1) ∧ J1C p id = some (-1)) ∨ ∃ k : Nat, k < p.Frames.length ∧ J1M p id = some (k : Int) ∧ J1C p id = some (k : Int) := by
  have hl := hp.len
  rw [Jar (show p.Frames.length < 1000000 by omega), JbB (show p.Frames.length < 1000000 by omega)]
  cases h : J5i p.Frames id with
  | none => exact .inl ⟨rfl, rfl⟩
  | some k => obtain ⟨hk, _⟩ := Jau h; exact .inr ⟨k, hk, rfl, rfl⟩
theorem Jl5 (p : T_api_Pool) (id : Int) : ∃ r, J5V p id = some r ∧ J3P p id = some r := by
  have m1 : ¬ (-1 : Int) ≥ 0 := by omega
  have m2 : (-1 : Int) < 0 := by omega
  rcases J7m p with ⟨hp, h1, h2⟩ | ⟨h1, h2⟩
  · rcases Jaf hp id with ⟨f1, f2⟩ | ⟨k, hk, f1, f2⟩
    · simp only [J5V, J3P, J1w, J1c, h1, h2, f1, f2, m1, m2, decide_true, decide_false, Option.bind_some, if_true, Bool.false_eq_true, if_false]
      exact ⟨_, rfl, rfl⟩
    · have c1 : (k : Int) ≥ 0 := by omega
      have c2 : ¬ (k : Int) < 0 := by omega
      simp only [J5V, J3P, J1w, J1c, h1, h2, f1, f2, c1, c2, J0P hk, decide_true, decide_false, Option.bind_some, if_true, Bool.false_eq_true, if_false]
      exact ⟨_, rfl, rfl⟩
  · simp only [J5V, J3P, J1w, J1c, h1, h2, m1, m2, decide_true, decide_false, Option.bind_some, if_true, Bool.false_eq_true, if_false]
    exact ⟨_, rfl, rfl⟩
theorem Ju2 (p : T_api_Pool) (hl : p.Frames.length ≤ 1000) (id : Int) : ∃ r, J61 p id = some r ∧ J5n p id = some r ∧ r.Frames.length ≤ 1000 := by
  have m1 : ¬ (-1 : Int) ≥ 0 := by omega
  have m2 : (-1 : Int) < 0 := by omega
  rcases J7m p with ⟨hp, h1, h2⟩ | ⟨h1, h2⟩
  · rcases Jaf hp id with ⟨f1, f2⟩ | ⟨k, hk, f1, f2⟩
    · simp only [J61, J5n, J1w, J1c, h1, h2, f1, f2, m1, m2, decide_true, decide_false, Option.bind_some, if_true, Bool.false_eq_true, if_false]
      exact ⟨_, rfl, rfl, hl⟩
    · have c1 : (k : Int) ≥ 0 := by omega
      have c2 : ¬ (k : Int) < 0 := by omega
      simp only [J61, J5n, J1w, J1c, h1, h2, f1, f2, c1, c2, J0P hk, decide_true, decide_false, Option.bind_some, if_true, Bool.false_eq_true, if_false, Jgy hl hk, JeK hp.len hk]
      exact ⟨_, rfl, rfl, by simpa using hl⟩
  · simp only [J61, J5n, J1w, J1c, h1, h2, m1, m2, decide_true, decide_false, Option.bind_some, if_true, Bool.false_eq_true, if_false]
    exact ⟨_, rfl, rfl, hl⟩
theorem JlN (p : T_api_Pool) (id n : Int) : ∃ r, J4e p id n = some r ∧ J3c p id n = some r ∧ r.1.Frames.length ≤ 1000 := by
  have m2 : (-1 : Int) < 0 := by omega
  rcases J7m p with ⟨hp, h1, h2⟩ | ⟨h1, h2⟩
  · have h64 := hp.len
    rcases Jaf hp id with ⟨f1, f2⟩ | ⟨k, hk, f1, f2⟩
    · simp only [J4e, J3c, h1, h2, f1, f2, m2, decide_true, Option.bind_some, if_true]
      exact ⟨_, rfl, rfl, by show 0 ≤ 1000; omega⟩
    · have c2 : ¬ (k : Int) < 0 := by omega
      have w : ∀ f, J59 (k : Int) p (⟨0, ([] : List T_api_Frame), 0⟩ : T_api_Pool) f = some (⟨p.Size, p.Frames.set k f, p.Hand⟩, 0) := fun f => by
        simp only [J59, Jgy (show p.Frames.length ≤ 1000 by omega) hk, Option.bind_some]
      have w2 : ∀ f, J4v (k : Int) p (⟨0, ([] : List T_api_Frame), 0⟩ : T_api_Pool) f = some (⟨p.Size, p.Frames.set k f, p.Hand⟩, 0) := fun f => by
        simp only [J4v, JeK h64 hk, Option.bind_some]
      simp only [J4e, J3c, h1, h2, f1, f2, c2, J0P hk, decide_false, Option.bind_some, if_true, Bool.false_eq_true, if_false, w, w2]
      by_cases c3 : n > p.Frames[k].Page.LSN
      · simp only [c3, decide_true, if_true]
        exact ⟨_, rfl, rfl, by show 0 ≤ 1000; omega⟩
      simp only [c3, decide_false, Bool.false_eq_true, if_false]
      cases p.Frames[k].Dirty with
      | false =>
        simp only [Bool.false_eq_true, if_false]
        exact ⟨_, rfl, rfl, by show p.Frames.length ≤ 1000; omega⟩
      | true =>
        simp only [if_true]
        by_cases c4 : n = p.Frames[k].Page.LSN
        · have d1 : (n == p.Frames[k].Page.LSN) = true := by simpa using c4
          have d2 : (p.Frames[k].Page.LSN == n) = true := by simpa using c4.symm
          simp only [d1, d2, if_true]
          exact ⟨_, rfl, rfl, by show (p.Frames.set k _).length ≤ 1000; rw [List.length_set]; omega⟩
        · have d1 : (n == p.Frames[k].Page.LSN) = false := by simpa using c4
          have d2 : (p.Frames[k].Page.LSN == n) = false := by simpa using fun h => c4 h.symm
          simp only [d1, d2, Bool.false_eq_true, if_false]
          by_cases c5 : p.Frames[k].Rec ≤ n
          · simp only [c5, decide_true, if_true]
            exact ⟨_, rfl, rfl, by show (p.Frames.set k _).length ≤ 1000; rw [List.length_set]; omega⟩
          · simp only [c5, decide_false, Bool.false_eq_true, if_false]
            exact ⟨_, rfl, rfl, by show (p.Frames.set k _).length ≤ 1000; rw [List.length_set]; omega⟩
  · simp only [J4e, J3c, h1, h2, Option.bind_some, Bool.false_eq_true, if_false]
    exact ⟨_, rfl, rfl, by show 0 ≤ 1000; omega⟩
theorem Jlp (x : T_api_Page) : (JbF x ∧ J1l x = some (JtG x, 0) ∧ J3b x = some 0) ∨ ∃ e, e ≠ 0 ∧ J1l x = some ([], e) ∧ J3b x = some e := by
  obtain ⟨e, h1, h2, h3⟩ := JqY x
  by_cases he : e = 0
  · subst he
    exact .inl ⟨h2.1 rfl, Jlu (h2.1 rfl), h1⟩
  · exact .inr ⟨e, he, h3 he, h1⟩
theorem JpL (p : T_api_Pool) (x : T_api_Page) : ∃ r, J20 p x = some r ∧ J3M p x = some r ∧ r.1.Frames.length ≤ 1000 := by
  have m1 : ¬ (-1 : Int) ≥ 0 := by omega
  have d0 : ((0 : Int) != 0) = false := rfl
  rcases J7m p with ⟨hp, h1, h2⟩ | ⟨h1, h2⟩
  · have h64 := hp.len
    rcases Jlp x with ⟨hx, e1, e2⟩ | ⟨e, he, e1, e2⟩
    · rcases Jaf hp x.ID with ⟨f1, f2⟩ | ⟨k, hk, f1, f2⟩
      · simp only [J20, J3M, h1, h2, e1, e2, f1, f2, m1, d0, decide_false, Option.bind_some, if_true, Bool.false_eq_true, if_false]
        by_cases c : ((((p.Frames.length : Nat) : Int) : Int) == p.Size) = true
        · simp only [c, if_true]
          exact ⟨_, rfl, rfl, by show 0 ≤ 1000; omega⟩
        · have ap : Jg9 424 p.Frames [(⟨x, false, 0, true⟩ : T_api_Frame)] = some (p.Frames ++ [⟨x, false, 0, true⟩]) := JlI (by omega)
          have ap2 : Jah 424 p.Frames [(⟨x, false, 0, true⟩ : T_api_Frame)] = some (p.Frames ++ [⟨x, false, 0, true⟩]) := by
            have e : J3h (p.Frames.length + 1) 424 = true := by simp [J3h]; omega
            simp only [Jah, List.length_cons, List.length_nil, Nat.zero_add, e, if_true]
          have cl : J0p p.Frames = some p.Frames := rfl
          simp only [c, Bool.false_eq_true, if_false, cl, ap, ap2, Jcp (show p.Frames.length ≤ 1000 by omega), Option.bind_some]
          exact ⟨_, rfl, rfl, by show (p.Frames ++ [_]).length ≤ 1000; simp; omega⟩
      · have c1 : (k : Int) ≥ 0 := by omega
        simp only [J20, J3M, h1, h2, e1, e2, f1, f2, c1, d0, decide_true, Option.bind_some, if_true, Bool.false_eq_true, if_false]
        exact ⟨_, rfl, rfl, by show 0 ≤ 1000; omega⟩
    · have d : (e != 0) = true := by simpa using he
      simp only [J20, J3M, h1, h2, e1, e2, d, Option.bind_some, if_true]
      exact ⟨_, rfl, rfl, by show 0 ≤ 1000; omega⟩
  · simp only [J20, J3M, h1, h2, Option.bind_some, Bool.false_eq_true, if_false]
    exact ⟨_, rfl, rfl, by show 0 ≤ 1000; omega⟩
theorem Jkd (p : T_api_Pool) (x : T_api_Page) : ∃ r, J3a p x = some r ∧ J27 p x = some r ∧ r.1.Frames.length ≤ 1000 := by
  have m2 : (-1 : Int) < 0 := by omega
  have d0 : ((0 : Int) != 0) = false := rfl
  rcases J7m p with ⟨hp, h1, h2⟩ | ⟨h1, h2⟩
  · have h64 := hp.len
    rcases Jlp x with ⟨hx, e1, e2⟩ | ⟨e, he, e1, e2⟩
    · rcases Jaf hp x.ID with ⟨f1, f2⟩ | ⟨k, hk, f1, f2⟩
      · simp only [J3a, J27, h1, h2, e1, e2, f1, f2, m2, d0, decide_true, Option.bind_some, if_true, Bool.false_eq_true, if_false]
        exact ⟨_, rfl, rfl, by show 0 ≤ 1000; omega⟩
      · have c2 : ¬ (k : Int) < 0 := by omega
        have w : ∀ f, J5z (k : Int) p (⟨0, ([] : List T_api_Frame), 0⟩ : T_api_Pool) f = some (⟨p.Size, p.Frames.set k f, p.Hand⟩, 0) := fun f => by
          simp only [J5z, Jgy (show p.Frames.length ≤ 1000 by omega) hk, Option.bind_some]
        have w2 : ∀ f : T_api_Frame, J5h (k : Int) p x (⟨0, ([] : List T_api_Frame), 0⟩ : T_api_Pool) f = some (⟨p.Size, p.Frames.set k ⟨x, true, f.Rec, true⟩, p.Hand⟩, 0) := fun f => by
          simp only [J5h, JeK h64 hk, Option.bind_some]
        simp only [J3a, J27, h1, h2, e1, e2, f1, f2, c2, d0, J0P hk, decide_false, Option.bind_some, if_true, Bool.false_eq_true, if_false, w, w2]
        by_cases c3 : x.LSN ≤ p.Frames[k].Page.LSN
        · simp only [c3, decide_true, if_true]
          exact ⟨_, rfl, rfl, by show 0 ≤ 1000; omega⟩
        simp only [c3, decide_false, Bool.false_eq_true, if_false]
        cases p.Frames[k].Dirty with
        | false =>
          simp only [Bool.false_eq_true, if_false]
          exact ⟨_, rfl, rfl, by show (p.Frames.set k _).length ≤ 1000; rw [List.length_set]; omega⟩
        | true =>
          simp only [if_true]
          exact ⟨_, rfl, rfl, by show (p.Frames.set k _).length ≤ 1000; rw [List.length_set]; omega⟩
    · have d : (e != 0) = true := by simpa using he
      rcases Jaf hp x.ID with ⟨f1, f2⟩ | ⟨k, hk, f1, f2⟩
      all_goals
        simp only [J3a, J27, h1, h2, e1, e2, f1, d, Option.bind_some, if_true]
        exact ⟨_, rfl, rfl, by show 0 ≤ 1000; omega⟩
  · simp only [J3a, J27, h1, h2, Option.bind_some, Bool.false_eq_true, if_false]
    exact ⟨_, rfl, rfl, by show 0 ≤ 1000; omega⟩
theorem JpH (n : Int) : ∃ r, J4s n = some r ∧ J64 n = some r ∧ r.1.Frames.length ≤ 1000 := by
  unfold J4s J64
  by_cases c1 : n < 1
  · simp only [c1, decide_true, if_true]; exact ⟨_, rfl, rfl, by show 0 ≤ 1000; omega⟩
  by_cases c2 : n > 64
  · simp only [c1, c2, decide_true, decide_false, if_true, Bool.false_eq_true, if_false]; exact ⟨_, rfl, rfl, by show 0 ≤ 1000; omega⟩
  · simp only [c1, c2, decide_false, Bool.false_eq_true, if_false]; exact ⟨_, rfl, rfl, by show 0 ≤ 1000; omega⟩
end Go.Am
end
section
namespace Go.Am
set_option maxRecDepth 16000
set_option maxHeartbeats 2000000
theorem Jtf (p : T_api_Pool) (id : Int) : ∃ r, J5l p id = some r ∧ J4i p id = some r ∧ r.1.Frames.length ≤ 1000 := by
  have m2 : (-1 : Int) < 0 := by omega
  rcases J7m p with ⟨hp, h1, h2⟩ | ⟨h1, h2⟩
  · have h64 := hp.len
    rcases Jaf hp id with ⟨f1, f2⟩ | ⟨k, hk, f1, f2⟩
    · simp only [J5l, J4i, h1, h2, f1, f2, m2, decide_true, Option.bind_some, if_true]
      exact ⟨_, rfl, rfl, by show 0 ≤ 1000; omega⟩
    · have c2 : ¬ (k : Int) < 0 := by omega
      simp only [J5l, J4i, h1, h2, f1, f2, c2, J0P hk, decide_false, Option.bind_some, if_true, Bool.false_eq_true, if_false]
      cases p.Frames[k].Dirty with
      | true =>
        simp only [if_true]
        exact ⟨_, rfl, rfl, by show 0 ≤ 1000; omega⟩
      | false =>
        have s1 : J8L p.Frames none (some (k : Int)) = some (p.Frames.take k) := JvB p.Frames (b := k) (by omega)
        have s2 : J8L p.Frames (some (IntKind.wrap .i64 ((k : Int) + 1))) none = some (p.Frames.drop (k + 1)) := by
          rw [J1R (by omega)]
          exact Jti p.Frames (a := k + 1) (by omega)
        have cl : Jf2 424 (p.Frames.take k) = some (p.Frames.take k) := Jcp (by rw [List.length_take]; omega)
        have ap : Jah 424 (p.Frames.take k) (p.Frames.drop (k + 1)) = some (p.Frames.eraseIdx k) := by
          have e : J3h ((p.Frames.take k).length + (p.Frames.drop (k + 1)).length) 424 = true := by simp [J3h]; omega
          rw [List.eraseIdx_eq_take_drop_succ]
          simp only [Jah, e, if_true]
        simp only [Bool.false_eq_true, if_false, Jaq (show p.Frames.length ≤ 1000 by omega), JqX hk (show p.Frames.length ≤ 1000 by omega), s1, s2, cl, ap, Option.bind_some]
        have hle : (p.Frames.eraseIdx k).length ≤ 1000 := by rw [List.length_eraseIdx]; split <;> omega
        by_cases c3 : (k : Int) < p.Hand
        · simp only [c3, decide_true, if_true, J6I, J6c]
          by_cases c4 : IntKind.wrap .i64 (p.Hand - 1) ≥ (((p.Frames.eraseIdx k).length : Nat) : Int)
          · simp only [c4, decide_true, if_true, J4L, J47]
            exact ⟨_, rfl, rfl, hle⟩
          · simp only [c4, decide_false, Bool.false_eq_true, if_false, J4L, J47]
            exact ⟨_, rfl, rfl, hle⟩
        · simp only [c3, decide_false, Bool.false_eq_true, if_false, J6I, J6c]
          by_cases c4 : p.Hand ≥ (((p.Frames.eraseIdx k).length : Nat) : Int)
          · simp only [c4, decide_true, if_true, J4L, J47]
            exact ⟨_, rfl, rfl, hle⟩
          · simp only [c4, decide_false, Bool.false_eq_true, if_false, J4L, J47]
            exact ⟨_, rfl, rfl, hle⟩
  · simp only [J5l, J4i, h1, h2, Option.bind_some, Bool.false_eq_true, if_false]
    exact ⟨_, rfl, rfl, by show 0 ≤ 1000; omega⟩
def Jk2 (l : List T_api_Frame) : Nat := l.countP fun f => f.Used
theorem Joh {l : List T_api_Frame} {k : Nat} (hk : k < l.length) (hu : l[k].Used = true) : Jk2 (l.set k ⟨l[k].Page, l[k].Dirty, l[k].Rec, false⟩) < Jk2 l := by
  unfold Jk2
  have e : l.countP (fun f => f.Used) = (l.take k).countP (fun f => f.Used) + (1 + (l.drop (k + 1)).countP fun f => f.Used) := by
    have h1 : l = l.take k ++ (l[k] :: l.drop (k + 1)) := by rw [← List.drop_eq_getElem_cons hk, List.take_append_drop]
    have h2 := congrArg (List.countP fun f : T_api_Frame => f.Used) h1
    rw [List.countP_append, List.countP_cons, hu] at h2
    rw [h2]
    simp only [if_true]
    omega
  have e2 : (l.set k ⟨l[k].Page, l[k].Dirty, l[k].Rec, false⟩).countP (fun f => f.Used) = (l.take k).countP (fun f => f.Used) + (l.drop (k + 1)).countP fun f => f.Used := by
    rw [List.set_eq_take_append_cons_drop, if_pos hk, List.countP_append, List.countP_cons]
    simp
  omega
theorem JoQ (size : Int) (n : Nat) (hn : 0 < n) (hn2 : n ≤ 64) : ∀ (m : Nat) (l : List T_api_Frame) (h : Nat), l.length = n → h < n → Jk2 l ≤ m →
    ∃ r, J4o size ⟨0, [], 0⟩ ((h : Int), l) = some r ∧ J81 ⟨0, [], 0⟩ ⟨size, l, (h : Int)⟩ = some r ∧ r.1.Frames.length ≤ 1000 := by
  intro m
  induction m with
  | zero =>
    intro l h hl hh hu
    have hk : h < l.length := by omega
    have nu : l[h].Used = false := by
      cases hq : l[h].Used with
      | false => rfl
      | true => have := Joh hk hq; omega
    refine ⟨(⟨size, l, (h : Int)⟩, l[h].Page.ID, 0), J2j ?_, J2j ?_, by show l.length ≤ 1000; omega⟩
    · simp only [J1G, J0P hk, Option.bind_some, nu, Bool.false_eq_true, if_false, J5y, Option.map_some]
    · simp only [J3Z, J0P hk, Option.bind_some, nu, Bool.false_eq_true, if_false, J6r, Option.map_some]
  | succ m ih =>
    intro l h hl hh hu
    have hk : h < l.length := by omega
    cases hq : l[h].Used with
    | false =>
      refine ⟨(⟨size, l, (h : Int)⟩, l[h].Page.ID, 0), J2j ?_, J2j ?_, by show l.length ≤ 1000; omega⟩
      · simp only [J1G, J0P hk, Option.bind_some, hq, Bool.false_eq_true, if_false, J5y, Option.map_some]
      · simp only [J3Z, J0P hk, Option.bind_some, hq, Bool.false_eq_true, if_false, J6r, Option.map_some]
    | true =>
      have hus := Joh hk hq
      obtain ⟨l', hl'⟩ : ∃ l', l' = l.set h ⟨l[h].Page, l[h].Dirty, l[h].Rec, false⟩ := ⟨_, rfl⟩
      have hll : l'.length = n := by rw [hl', List.length_set, hl]
      obtain ⟨r, e1, e2, e3⟩ := ih l' ((h + 1) % n) hll (Nat.mod_lt _ hn) (by rw [hl']; omega)
      have rem : Jbm ((h + 1 : Nat) : Int) ((l'.length : Nat) : Int) = some (((h + 1) % n : Nat) : Int) := by
        rw [hll]
        unfold Jbm
        have c : ((n : Nat) : Int) ≠ 0 := by omega
        have c2 : (((h + 1 : Nat) : Int)).tmod ((n : Nat) : Int) = (((h + 1) % n : Nat) : Int) := rfl
        simp only [c, c2, if_false, ne_eq, not_false_eq_true, if_true]
      have rem2 : Jbm ((h + 1 : Nat) : Int) ((l.length : Nat) : Int) = some (((h + 1) % n : Nat) : Int) := by rw [hl]; rw [hll] at rem; exact rem
      refine ⟨r, (J2U ?_).trans e1, (J2U ?_).trans e2, e3⟩
      · simp only [J1G, J0P hk, Option.bind_some, hq, if_true, Int.toNat_natCast, ← hl', J1R (show h < 1000000 by omega), rem, rem2]
      · have st : J3N ⟨size, l, (h : Int)⟩ (h : Int) ⟨l[h].Page, l[h].Dirty, l[h].Rec, false⟩ = some ⟨size, l', (h : Int)⟩ := by
          rw [hl']; exact JeK (p := ⟨size, l, (h : Int)⟩) (by show l.length ≤ 64; omega) hk _
        simp only [J3Z, J0P hk, Option.bind_some, hq, if_true, st, J1R (show h < 1000000 by omega), rem, rem2]
theorem Jk3 (p : T_api_Pool) : ∃ r, J1z p = some r ∧ J2A p = some r ∧ r.1.Frames.length ≤ 1000 := by
  rcases J7m p with ⟨hp, h1, h2⟩ | ⟨h1, h2⟩
  · have h64 := hp.len
    have h0 := hp.h0
    have hh := hp.h1
    by_cases c : p.Frames.length = 0
    · have d : (((p.Frames.length : Nat) : Int) == 0) = true := by simp [c]
      simp only [J1z, J2A, h1, h2, Option.bind_some, if_true, d]
      exact ⟨_, rfl, rfl, by show 0 ≤ 1000; omega⟩
    · have d : (((p.Frames.length : Nat) : Int) == 0) = false := by simpa using c
      obtain ⟨h, hh'⟩ : ∃ h : Nat, p.Hand = (h : Int) := ⟨p.Hand.toNat, by omega⟩
      have hlt : h < p.Frames.length := by rw [hh'] at hh; unfold Jai at hh; split at hh <;> omega
      obtain ⟨r, e1, e2, e3⟩ := JoQ p.Size p.Frames.length (by omega) h64 (Jk2 p.Frames) p.Frames h rfl hlt (Nat.le_refl _)
      rw [← hh'] at e1 e2
      have e2' : J81 ⟨0, [], 0⟩ p = some r := e2
      simp only [J1z, J2A, h1, h2, Option.bind_some, if_true, d, Bool.false_eq_true, if_false, Jaq (show p.Frames.length ≤ 1000 by omega), e1, e2']
      exact ⟨r, rfl, rfl, e3⟩
  · simp only [J1z, J2A, h1, h2, Option.bind_some, Bool.false_eq_true, if_false]
    exact ⟨_, rfl, rfl, by show 0 ≤ 1000; omega⟩
end Go.Am
end
