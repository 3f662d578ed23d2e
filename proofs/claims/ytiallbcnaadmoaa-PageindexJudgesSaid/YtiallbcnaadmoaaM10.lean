/-
  Parts of a proof: YtiallbcnaadmoaaCrc, YtiallbcnaadmoaaPlain3, YtiallbcnaadmoaaPlain4, YtiallbcnaadmoaaBack, YtiallbcnaadmoaaBack2, YtiallbcnaadmoaaBack3, YtiallbcnaadmoaaBack4, YtiallbcnaadmoaaBack5, YtiallbcnaadmoaaInj, YtiallbcnaadmoaaInj2, YtiallbcnaadmoaaRef, YtiallbcnaadmoaaRef2, YtiallbcnaadmoaaLaws, YtiallbcnaadmoaaPidx, YtiallbcnaadmoaaPidx2, YtiallbcnaadmoaaLoops, YtiallbcnaadmoaaTot, YtiallbcnaadmoaaPidx3, YtiallbcnaadmoaaPidx4, YtiallbcnaadmoaaPidx5, YtiallbcnaadmoaaPidx6, YtiallbcnaadmoaaPidx7, AmIn, AmLaw.
-/
import Derived.ChangeArms
import Derived.OpenShut
import Derived.ChangeBears
import Derived.ChangeStays
import Derived.Handed
import Derived.RowKit3
import Derived.WalkKit
import Derived.ProofKit
import Derived.Test.YtiallbcnaadmoaaM4
import Derived.Test.YtiallbcnaadmoaaM9
set_option linter.unusedSimpArgs false
set_option linter.unusedVariables false
section
namespace Go.Am
theorem Jpz {σ ρ : Type} {f g : σ → Option (σ ⊕ ρ)} (I : σ → Prop) (h1 : ∀ s, I s → f s = g s) (h2 : ∀ s s', I s → f s = some (.inl s') → I s') {s : σ} (hs : I s) : JK f s = JK g s := by
  have key : ∀ (f g : σ → Option (σ ⊕ ρ)), (∀ s, I s → f s = g s) → (∀ s s', I s → f s = some (.inl s') → I s') → ∀ r s, I s → JK f s = some r → JK g s = some r := by
    intro f g h1 h2 r s hs h
    exact J10 (P := fun s r => I s → JK g s = some r) (fun s r e hs => J33 ((h1 s hs) ▸ e)) (fun s s' r e ih hs => (J41 ((h1 s hs) ▸ e)).trans (ih (h2 s s' hs e))) h hs
  cases hf : JK f s with
  | some r => exact (key f g h1 h2 r s hs hf).symm
  | none =>
    cases hg : JK g s with
    | none => rfl
    | some r => rw [key g f (fun s hs => (h1 s hs).symm) (fun s s' hs e => h2 s s' hs ((h1 s hs).trans e)) r s hs hg] at hf; cases hf
theorem Jrr {σ ρ τ ρ' : Type} {f : σ → Option (σ ⊕ ρ)} {g : τ → Option (τ ⊕ ρ')} (R : σ → τ → Prop) (K : ρ → ρ' → Prop)
    (h1 : ∀ s t s', R s t → f s = some (.inl s') → ∃ t', g t = some (.inl t') ∧ R s' t') (h2 : ∀ s t r, R s t → f s = some (.inr r) → ∃ r', g t = some (.inr r') ∧ K r r')
    {s : σ} {t : τ} {r : ρ} (hR : R s t) (h : JK f s = some r) : ∃ r', JK g t = some r' ∧ K r r' := by
  exact J10 (P := fun s r => ∀ t, R s t → ∃ r', JK g t = some r' ∧ K r r')
    (fun s r e t ht => by obtain ⟨r', a, b⟩ := h2 s t r ht e; exact ⟨r', J33 a, b⟩)
    (fun s s' r e ih t ht => by obtain ⟨t', a, b⟩ := h1 s t s' ht e; obtain ⟨r', c, d⟩ := ih t' b; exact ⟨r', (J41 a).trans c, d⟩) h t hR
theorem JaO {a b : List UInt8} (h : a.length + b.length ≤ 1000000000) : J4a a b = some (a ++ b) := by
  have e : a.length + b.length ≤ 4611686018427387904 := by omega
  simp [J4a, e]
theorem JoE {n : Int} (h1 : 0 ≤ n) (h2 : n < 1000000) : IntKind.wrap .u64 (IntKind.wrap .i64 n) = n := by
  rw [J0r (by omega) (by omega), JaL h1 (by omega)]
theorem JaU (l : List UInt8) (n : Int) {k : Nat} (h1 : 1 ≤ k) (h8 : k ≤ 8) (hl : l.length ≤ 1000000) : J1K l n (k : Int) = some (l ++ J05 n k) := by
  have c1 : ¬ (k : Int) < 1 := by omega
  have c2 : ¬ (k : Int) > 8 := by omega
  have key : ∀ (m j : Nat), j + m = k → JK (fun s : List UInt8 × Int => J5Z n k s.1 s.2) (l ++ J05 n j, (j : Int)) = some (l ++ J05 n k) := by
    intro m
    induction m with
    | zero =>
      intro j hj
      obtain rfl : j = k := by omega
      have e1 : ¬ ((j : Nat) : Int) < (j : Int) := by omega
      refine J33 ?_
      simp only [J5Z, e1, decide_false, Bool.false_eq_true, if_false, Jau, Option.map_some]
    | succ m ih =>
      intro j hj
      have e1 : ((j : Nat) : Int) < (k : Int) := by omega
      have e2 : IntKind.wrap .u64 (IntKind.wrap .i64 (8 * (j : Int))) = 8 * (j : Int) := JoE (by omega) (by omega)
      have e3 : Jaz .u64 (IntKind.wrap .u64 n) (8 * (j : Int)) = some ((IntKind.wrap .u64 n).fdiv (2 ^ (8 * j))) := by
        simp only [Jaz]
        rw [if_neg (by omega)]
        have : min (8 * (j : Int)).toNat IntKind.u64.bits = 8 * j := by
          rw [show (8 * (j : Int)).toNat = 8 * j by omega]
          exact Nat.min_eq_left (by show 8 * j ≤ 64; omega)
        rw [this]
      have e4 : toStr [IntKind.wrap .u8 ((IntKind.wrap .u64 n).fdiv (2 ^ (8 * j)))] = [UInt8.ofNat (J6R n j).toNat] := rfl
      have e5 : J4a (l ++ J05 n j) [UInt8.ofNat (J6R n j).toNat] = some (l ++ J05 n (j + 1)) := by
        rw [JaO (by rw [List.length_append, J07]; simp; omega), JlT, List.append_assoc]
      refine (J41 (s' := (l ++ J05 n (j + 1), ((j + 1 : Nat) : Int))) ?_).trans (ih (j + 1) (by omega))
      simp only [J5Z, e1, decide_true, if_true, e2, e3, Option.bind_some, e4, e5, J1G (show j < 1000000 by omega)]
  unfold J1K
  simp only [c1, c2, decide_false, Bool.false_eq_true, if_false]
  have h0 := key k 0 (by omega)
  have e : J05 n 0 = [] := rfl
  rw [e, List.append_nil] at h0
  exact h0
theorem Jlk (s : List UInt8) (at_ : Int) {k : Int} (h1 : 1 ≤ k) (h8 : k ≤ 8) : J3h s at_ k = J0L s at_ k := by
  have key : Jc1 s at_ k (0, 0) = JbU s at_ k (0, 0) := by
    refine Jpz (fun q : Int × Int => 0 ≤ q.2 ∧ q.2 ≤ k) (fun q ⟨h0, h2⟩ => ?_) (fun q q' ⟨h0, h2⟩ e => ?_) ⟨by simp, by simp; omega⟩
    · have e2 : IntKind.wrap .u64 (IntKind.wrap .i64 (8 * q.2)) = 8 * q.2 := JoE (by omega) (by omega)
      have e3 : IntKind.wrap .i64 (8 * q.2) = 8 * q.2 := J0r (by omega) (by omega)
      have e4 : IntKind.wrap .u64 (8 * q.2) = 8 * q.2 := JaL (by omega) (by omega)
      simp only [J7a, J0C, e3, e4]
      rfl
    · simp only [J7a] at e
      split at e
      · rename_i hlt
        simp only [decide_eq_true_eq] at hlt
        simp only [Option.bind_eq_some_iff, Option.some.injEq, Sum.inl.injEq] at e
        obtain ⟨_, _, _, _, rfl⟩ := e
        have e3 : IntKind.wrap .i64 (q.2 + 1) = q.2 + 1 := J0r (by omega) (by omega)
        simp only [e3]
        omega
      · simp [Jaw] at e
  unfold J3h J0L
  rw [key]
def P32 : Nat := 2197175160
def gb (c : Nat) : Nat := if c % 2 = 1 then c / 2 ^^^ P32 else c / 2
def gN : Nat → Nat → Nat
  | 0, c => c
  | j + 1, c => gN j (gb c)
def sl (b : Nat) : Nat := if b = 1 then P32 else 0
theorem JjH (c : Nat) : gb c = c / 2 ^^^ sl (c % 2) := by
  unfold gb sl
  split
  · rfl
  · rw [Nat.xor_zero]
theorem JwB (x y : Nat) : gb (x ^^^ y) = gb x ^^^ gb y := by
  have e1 : (x ^^^ y) / 2 = x / 2 ^^^ y / 2 := by have := @Nat.xor_div_two_pow x y 1; simpa using this
  have e2 : (x ^^^ y) % 2 = x % 2 ^^^ y % 2 := by have := @Nat.xor_mod_two_pow x y 1; simpa using this
  simp only [JjH, e1, e2]
  have e3 : sl (x % 2 ^^^ y % 2) = sl (x % 2) ^^^ sl (y % 2) := by
    rcases Nat.mod_two_eq_zero_or_one x with h | h <;> rcases Nat.mod_two_eq_zero_or_one y with h' | h' <;> rw [h, h'] <;> decide
  rw [e3]
  ac_rfl
theorem Jkr : ∀ (j x y : Nat), gN j (x ^^^ y) = gN j x ^^^ gN j y
  | 0, _, _ => rfl
  | j + 1, x, y => by simp only [gN]; rw [JwB, Jkr j]
theorem Jsd : ∀ (i j x : Nat), gN (i + j) x = gN j (gN i x)
  | 0, j, x => by simp [gN]
  | i + 1, j, x => by rw [Nat.succ_add]; simp only [gN]; exact Jsd i j _
theorem Jq4 (c : Nat) : gN 4 c = c / 16 ^^^ (sl (c / 8 % 2) ^^^ gN 1 (sl (c / 4 % 2)) ^^^ gN 2 (sl (c / 2 % 2)) ^^^ gN 3 (sl (c % 2))) := by
  have s1 : gN 4 c = gN 3 (c / 2) ^^^ gN 3 (sl (c % 2)) := by
    rw [← Jkr, ← JjH]; rfl
  have s2 : gN 3 (c / 2) = gN 2 (c / 4) ^^^ gN 2 (sl (c / 2 % 2)) := by
    rw [← Jkr, show c / 4 = c / 2 / 2 by omega, ← JjH]; rfl
  have s3 : gN 2 (c / 4) = gN 1 (c / 8) ^^^ gN 1 (sl (c / 4 % 2)) := by
    rw [← Jkr, show c / 8 = c / 4 / 2 by omega, ← JjH]; rfl
  have s4 : gN 1 (c / 8) = c / 16 ^^^ sl (c / 8 % 2) := by
    rw [show c / 16 = c / 8 / 2 by omega, ← JjH]; rfl
  rw [s1, s2, s3, s4]
  ac_rfl
theorem JtF (c : Nat) : gN 4 c = c / 16 ^^^ gN 4 (c % 16) := by
  rw [Jq4 c, Jq4 (c % 16)]
  have a0 : c % 16 / 16 = 0 := by omega
  have a1 : c % 16 / 8 % 2 = c / 8 % 2 := by omega
  have a2 : c % 16 / 4 % 2 = c / 4 % 2 := by omega
  have a3 : c % 16 / 2 % 2 = c / 2 % 2 := by omega
  have a4 : c % 16 % 2 = c % 2 := by omega
  rw [a0, a1, a2, a3, a4, Nat.zero_xor]
theorem JoD : P32 < 2 ^ 32 := by decide
theorem Jqv {c : Nat} (h : c < 2 ^ 32) : gb c < 2 ^ 32 := by
  unfold gb
  split
  · exact Nat.xor_lt_two_pow (by omega) JoD
  · omega
theorem Jhm : ∀ {j c : Nat}, c < 2 ^ 32 → gN j c < 2 ^ 32
  | 0, _, h => h
  | j + 1, _, h => Jhm (j := j) (Jqv h)
theorem JbB (n : Nat) (h : n < 2 ^ 32) : IntKind.wrap .u32 (n : Int) = (n : Int) := by
  rw [show IntKind.wrap .u32 (n : Int) = (n : Int) % 4294967296 from rfl]; omega
theorem Jl2 {n : Nat} (h : n < 2 ^ 32) : (BitVec.ofInt 32 (n : Int)).toNat = n := by
  rw [BitVec.toNat_ofInt]; omega
theorem Jdf {x y : Nat} (hx : x < 2 ^ 32) (hy : y < 2 ^ 32) : J5S .u32 (x : Int) (y : Int) = ((x ^^^ y : Nat) : Int) := by
  show IntKind.wrap .u32 (((BitVec.ofInt 32 (x : Int) ^^^ BitVec.ofInt 32 (y : Int)).toNat : Nat) : Int) = _
  rw [BitVec.toNat_xor, Jl2 hx, Jl2 hy, JbB _ (Nat.xor_lt_two_pow hx hy)]
theorem Jnw {x : Nat} (hx : x < 2 ^ 32) (k : Nat) (hk : k ≤ 20) : J5z .u32 (x : Int) ((2 ^ k - 1 : Nat) : Int) = ((x % 2 ^ k : Nat) : Int) := by
  show IntKind.wrap .u32 (((BitVec.ofInt 32 (x : Int) &&& BitVec.ofInt 32 ((2 ^ k - 1 : Nat) : Int)).toNat : Nat) : Int) = _
  have h2 : 2 ^ k - 1 < 2 ^ 32 := by
    have : (2 : Nat) ^ k ≤ 2 ^ 20 := Nat.pow_le_pow_right (by omega) hk
    omega
  rw [BitVec.toNat_and, Jl2 hx, Jl2 h2, Nat.and_two_pow_sub_one_eq_mod, JbB _ (Nat.lt_of_le_of_lt (Nat.mod_le _ _) hx)]
theorem Jwh {x : Nat} (hx : x < 2 ^ 32) : J5z .u32 (x : Int) 1 = ((x % 2 : Nat) : Int) := Jnw hx 1 (by omega)
theorem Jww {x : Nat} (hx : x < 2 ^ 32) : J5z .u32 (x : Int) 15 = ((x % 16 : Nat) : Int) := Jnw hx 4 (by omega)
theorem JvC (x : Nat) : Jaz .u32 (x : Int) 1 = some ((x / 2 : Nat) : Int) := by
  show some ((x : Int).fdiv 2) = _
  rw [Int.fdiv_eq_ediv_of_nonneg _ (by omega)]; simp
theorem Jxy (x : Nat) : Jaz .u32 (x : Int) 4 = some ((x / 16 : Nat) : Int) := by
  show some ((x : Int).fdiv 16) = _
  rw [Int.fdiv_eq_ediv_of_nonneg _ (by omega)]; simp
def JiL : List UInt8 → Nat → Nat
  | [], c => c
  | b :: r, c => JiL r (gN 8 (c ^^^ b.toNat))
theorem JbA (b : UInt8) : b.toNat < 2 ^ 32 := by have := UInt8.toNat_lt b; omega
theorem JpW : ∀ {l : List UInt8} {c : Nat}, c < 2 ^ 32 → JiL l c < 2 ^ 32
  | [], _, h => h
  | b :: r, _, h => JpW (l := r) (Jhm (Nat.xor_lt_two_pow h (JbA b)))
def crc (l : List UInt8) : Nat := JiL l 4294967295 ^^^ 4294967295
theorem JnD (l : List UInt8) : crc l < 2 ^ 32 := Nat.xor_lt_two_pow (JpW (by decide)) (by decide)
theorem Jog {x : Nat} (hx : x < 2 ^ 32) : JqX .u32 (x : Int) = ((x ^^^ 4294967295 : Nat) : Int) := by
  show IntKind.wrap .u32 (((BitVec.ofInt 32 4294967295 ^^^ BitVec.ofInt 32 (x : Int)).toNat : Nat) : Int) = _
  rw [BitVec.toNat_xor, Jl2 hx, show (4294967295 : Int) = ((4294967295 : Nat) : Int) by rfl, Jl2 (by decide), Nat.xor_comm, JbB _ (Nat.xor_lt_two_pow hx (by decide))]
theorem JpV (l : List UInt8) (hl : l.length ≤ 100000) : J7O l = some ((crc l : Nat) : Int) := by
  have inner : ∀ (x : Nat) (m k c : Nat), c < 2 ^ 32 → x < 200000 → k + m = 8 → JK (fun s : Int × Int => J5R l (x : Int) s.1 s.2) ((c : Int), (k : Int)) = some (.inl (((gN m c : Nat) : Int), ((x + 1 : Nat) : Int))) := by
    intro x m
    induction m with
    | zero =>
      intro k c hc hx hk
      obtain rfl : k = 8 := by omega
      refine J33 ?_
      have e1 : ¬ (((8 : Nat) : Nat) : Int) < 8 := by omega
      simp only [J5R, e1, decide_false, Bool.false_eq_true, if_false, Jaq, Option.map_some, J1G (show x < 1000000 by omega), gN]
    | succ m ih =>
      intro k c hc hx hk
      have e1 : ((k : Nat) : Int) < 8 := by omega
      refine (J41 (s' := (((gb c : Nat) : Int), ((k + 1 : Nat) : Int))) ?_).trans (ih (k + 1) (gb c) (Jqv hc) hx (by omega))
      have e2 := Jwh hc
      simp only [J5R, e1, decide_true, if_true, e2, JvC, Option.bind_some, J8K, J1G (show k < 1000000 by omega)]
      unfold gb
      by_cases hb : c % 2 = 1
      · simp only [hb, if_true, Int.natCast_one, beq_self_eq_true]
        rw [show (2197175160 : Int) = ((P32 : Nat) : Int) by rfl, Jdf (by omega) JoD]
      · have e3 : (((c % 2 : Nat) : Int) == 1) = false := by simp; omega
        simp only [hb, if_false, e3, Bool.false_eq_true]
  have outer : ∀ (m j c : Nat), c < 2 ^ 32 → j + m = l.length → JK (fun s : Int × Int => J63 l s.1 s.2) ((c : Int), (j : Int)) = some (((JiL (l.drop j) c ^^^ 4294967295 : Nat) : Int)) := by
    intro m
    induction m with
    | zero =>
      intro j c hc hj
      obtain rfl : j = l.length := by omega
      refine J33 ?_
      have e1 : ¬ ((l.length : Nat) : Int) < ((l.length : Nat) : Int) := by omega
      simp only [J63, e1, decide_false, Bool.false_eq_true, if_false, Jar, Option.map_some, Jog hc, List.drop_length, JiL]
    | succ m ih =>
      intro j c hc hj
      have hlt : j < l.length := by omega
      have e1 : ((j : Nat) : Int) < ((l.length : Nat) : Int) := by omega
      have hx := Nat.xor_lt_two_pow hc (JbA l[j])
      refine (J41 (s' := (((gN 8 (c ^^^ (l[j]).toNat) : Nat) : Int), ((j + 1 : Nat) : Int))) ?_).trans ((ih (j + 1) _ (Jhm hx) (by omega)).trans ?_)
      · simp only [J63, e1, decide_true, if_true, J95 hlt, Option.bind_some]
        rw [JbB _ (JbA _), Jdf hc (JbA _)]
        exact inner j 8 0 _ hx (by omega) (by omega)
      · rw [List.drop_eq_getElem_cons hlt]
        rfl
  exact outer l.length 0 4294967295 (by decide) (by omega)
theorem Jkj : ∃ v, J35 = some v ∧ ∀ (i : Nat) (h : i < 16), v[i] = ((gN 4 i : Nat) : Int) := by
  have inner : ∀ (k : Nat) (b0 b1 : Vector Int 16), k < 16 → ∀ (m j c : Nat), c < 2 ^ 32 → j + m = 4 → JK (fun s : Int × Int => J0N k k b0 b1 s.1 s.2) ((c : Int), (j : Int)) = some (.inl (((k + 1 : Nat) : Int), JaE b1 k ((gN m c : Nat) : Int))) := by
    intro k b0 b1 hk m
    induction m with
    | zero =>
      intro j c hc hj
      obtain rfl : j = 4 := by omega
      refine J33 ?_
      have e1 : ¬ (((4 : Nat) : Nat) : Int) < 4 := by omega
      simp only [J0N, e1, decide_false, Bool.false_eq_true, if_false, J4z, J4B, J9R hk, J49 _ k hk, Option.bind_some, Option.map_some, J1G (show k < 1000000 by omega), gN]
    | succ m ih =>
      intro j c hc hj
      have e1 : ((j : Nat) : Int) < 4 := by omega
      refine (J41 (s' := (((gb c : Nat) : Int), ((j + 1 : Nat) : Int))) ?_).trans (ih (j + 1) (gb c) (Jqv hc) (by omega))
      have e2 := Jwh hc
      simp only [J0N, e1, decide_true, if_true, e2, JvC, Option.bind_some, J1G (show j < 1000000 by omega)]
      unfold gb
      by_cases hb : c % 2 = 1
      · simp only [hb, if_true, Int.natCast_one, beq_self_eq_true]
        rw [show (2197175160 : Int) = ((P32 : Nat) : Int) by rfl, Jdf (by omega) JoD]
      · have e3 : (((c % 2 : Nat) : Int) == 1) = false := by simp; omega
        simp only [hb, if_false, e3, Bool.false_eq_true]
  refine J1z (f := fun s : Int × Vector Int 16 => J1b (Vector.replicate 16 0) s.1 s.2) (fun s => ∃ j : Nat, s.1 = j ∧ j ≤ 16 ∧ ∀ (i : Nat) (h : i < 16), i < j → s.2[i] = ((gN 4 i : Nat) : Int)) (fun s => (16 - s.1).toNat) (fun v => ∀ (i : Nat) (h : i < 16), v[i] = ((gN 4 i : Nat) : Int)) (fun s ⟨j, hj, h4, hv⟩ => ?_) (0, Vector.replicate 16 0) ⟨0, rfl, by omega, fun i h hh => by omega⟩
  obtain ⟨j', b1⟩ := s
  simp only at hj hv
  subst hj
  by_cases hlt : j < 16
  · left
    have e1 : ((j : Nat) : Int) < 16 := by omega
    have ho := inner j (Vector.replicate 16 0) b1 hlt 4 0 j (by omega) (by omega)
    refine ⟨⟨((j + 1 : Nat) : Int), JaE b1 j ((gN 4 j : Nat) : Int)⟩, by simp only [J1b, e1, decide_true, if_true, JbB j (by omega)]; exact ho, ⟨j + 1, rfl, by omega, fun i h hh => ?_⟩, by simp; omega⟩
    simp only [JaE, Int.toNat_natCast, Vector.getElem_setIfInBounds]
    by_cases hij : j = i
    · subst hij; simp
    · rw [if_neg hij]; exact hv i h (by omega)
  · right
    obtain rfl : j = 16 := by omega
    have e1 : ¬ (((16 : Nat) : Nat) : Int) < 16 := by omega
    exact ⟨b1, by simp only [J1b, e1, decide_false, Bool.false_eq_true, if_false, J4A, Option.map_some], fun i h => hv i h h⟩
theorem Joo (l : List UInt8) (hl : l.length ≤ 100000) : J3f l = some ((crc l : Nat) : Int) := by
  obtain ⟨v, hv, ht⟩ := Jkj
  have outer : ∀ (m j c : Nat), c < 2 ^ 32 → j + m = l.length → JK (fun s : Int × Int => J3g l (l.length : Int) v s.1 s.2) ((c : Int), (j : Int)) = some (((JiL (l.drop j) c ^^^ 4294967295 : Nat) : Int)) := by
    intro m
    induction m with
    | zero =>
      intro j c hc hj
      obtain rfl : j = l.length := by omega
      refine J33 ?_
      have e1 : ¬ ((l.length : Nat) : Int) < ((l.length : Nat) : Int) := by omega
      simp only [J3g, e1, decide_false, Bool.false_eq_true, if_false, J8M, Option.map_some, Jog hc, List.drop_length, JiL]
    | succ m ih =>
      intro j c hc hj
      have hlt : j < l.length := by omega
      have e1 : ((j : Nat) : Int) < ((l.length : Nat) : Int) := by omega
      have hx := Nat.xor_lt_two_pow hc (JbA l[j])
      have step : ∀ x : Nat, x < 2 ^ 32 → inb 16 (J5z .u32 (x : Int) 15) = some () ∧ J6Z v (J5z .u32 (x : Int) 15) = some ((gN 4 (x % 16) : Nat) : Int) ∧ J5S .u32 ((x / 16 : Nat) : Int) ((gN 4 (x % 16) : Nat) : Int) = ((gN 4 x : Nat) : Int) := by
        intro x hx
        have h16 : x % 16 < 16 := by omega
        rw [Jww hx]
        refine ⟨J9R h16, by rw [J49 _ _ h16, ht _ h16], ?_⟩
        rw [Jdf (by omega) (Jhm (by omega)), ← JtF]
      refine (J41 (s' := (((gN 8 (c ^^^ (l[j]).toNat) : Nat) : Int), ((j + 1 : Nat) : Int))) ?_).trans ((ih (j + 1) _ (Jhm hx) (by omega)).trans ?_)
      · obtain ⟨a1, a2, a3⟩ := step _ hx
        obtain ⟨b1, b2, b3⟩ := step (gN 4 (c ^^^ (l[j]).toNat)) (Jhm hx)
        simp only [J3g, e1, decide_true, if_true, J95 hlt, Option.bind_some, JbB _ (JbA l[j]), Jdf hc (JbA l[j]), Jxy, a1, a2, a3, b1, b2, b3, J1G (show j < 1000000 by omega)]
        rw [← Jsd 4 4]
      · rw [List.drop_eq_getElem_cons hlt]
        rfl
  unfold J3f
  rw [hv]
  exact outer l.length 0 4294967295 (by decide) (by omega)
end Go.Am
end
section
namespace Go.Am
theorem JpJ (p : T_api_Page) (hc : ∀ (i : Nat) (h : i < 16), (p.Cells[i]).Data.length ≤ 12) (h0 : List UInt8) (hh : h0 = J05 p.LSN 8 ++ J05 p.ID 4) :
    ∃ r, Jb4 p.Cells p (0, ⟨h0⟩) = some r ∧ JqT p r := by
  refine J1z (f := fun s : Int × T_page_builder => J2o p.Cells p s.1 s.2) (fun s => ∃ (j : Nat) (t : List UInt8), s.1 = j ∧ j ≤ 16 ∧ s.2.s_ = J05 p.LSN 8 ++ J05 p.ID 4 ++ t ∧ t.length = 13 * j) (fun s => (16 - s.1).toNat)
    (JqT p) (fun s ⟨j, t, hj, h4, ht, hl⟩ => ?_) (0, ⟨h0⟩) ⟨0, [], rfl, by omega, by simp [hh], by simp⟩
  obtain ⟨j', b⟩ := s
  simp only at hj ht
  subst hj
  have hbl : b.s_.length = 12 + 13 * j := by rw [ht]; simp only [List.length_append, J07, hl]
  by_cases hlt : j < 16
  · left
    have e1 : ((j : Nat) : Int) < 16 := by omega
    obtain ⟨u, e2, hu⟩ := Jr4 b p.Cells[j] (hc j hlt) (by omega)
    exact ⟨⟨((j + 1 : Nat) : Int), ⟨b.s_ ++ u⟩⟩, by simp only [J2o, e1, decide_true, if_true, J49 _ j hlt, Option.bind_some, e2, J1G (show j < 1000000 by omega)], ⟨j + 1, t ++ u, rfl, by omega, by simp only [ht, List.append_assoc], by simp only [List.length_append, hl, hu]; omega⟩, by simp; omega⟩
  · right
    obtain rfl : j = 16 := by omega
    have e1 : ¬ (((16 : Nat) : Nat) : Int) < 16 := by omega
    have a0 : IntKind.wrap .i64 (244 - ((b.s_.length : Nat) : Int)) = 24 := by rw [hbl, J0r (by omega) (by omega)]; omega
    have a1 := JcX (n := 24) (by omega) (by omega)
    have a2 : J4a b.s_ (List.replicate (24 : Int).toNat 0) = some (b.s_ ++ List.replicate (24 : Int).toNat 0) := Jeg (by omega) (by simp)
    obtain ⟨r, a3⟩ := JnG (b.s_ ++ List.replicate (24 : Int).toNat 0) (by simp [hbl])
    have a4 := Jad (b.s_ ++ List.replicate (24 : Int).toNat 0) (IntKind.wrap .i64 r) (k := 4) (by omega) (by omega) (by simp [hbl])
    have a5 := Jad (b.s_ ++ List.replicate (24 : Int).toNat 0 ++ J05 (IntKind.wrap .i64 r) 4) p.LSN (k := 8) (by omega) (by omega) (by simp [hbl, J07])
    refine ⟨(b.s_ ++ List.replicate (24 : Int).toNat 0 ++ J05 (IntKind.wrap .i64 r) 4 ++ J05 p.LSN 8, 0), ?_, ?_⟩
    · simp only [J2o, e1, decide_false, Bool.false_eq_true, if_false, J7M, a0, a1, a2, a3, Option.bind_some]
      rw [show (4 : Int) = ((4 : Nat) : Int) by rfl, a4, Option.bind_some, show (8 : Int) = ((8 : Nat) : Int) by rfl, a5]
      rfl
    · refine ⟨rfl, by simp [hbl, J07], ?_, ?_, ?_⟩
      · rw [ht]
        simp only [List.append_assoc]
        rw [List.take_append_of_le_length (by rw [J07]; omega), List.take_of_length_le (by rw [J07]; omega)]
      · rw [List.drop_append, List.drop_of_length_le (by simp [hbl, J07]), List.nil_append]
        simp [hbl, J07]
      · rw [ht]
        simp only [List.append_assoc]
        rw [List.drop_append, List.drop_of_length_le (by rw [J07]; omega), List.nil_append, J07, Nat.sub_self, List.drop_zero, List.take_append_of_le_length (by rw [J07]; omega), List.take_of_length_le (by rw [J07]; omega)]
theorem JjC (p : T_api_Page) : ∃ r, J1l p = some r ∧ (J7G p → JqT p r) := by
  have hp : ∃ b, J1P p = some b ∧ (J7G p → b = true) := by
    unfold J1P J2F
    by_cases h1 : p.ID ≥ 0
    · by_cases h2 : p.ID < 64
      · by_cases h3 : p.LSN ≥ 0
        · exact ⟨decide (p.LSN ≤ 1099511627776), by simp [h1, h2, h3], fun h => by simpa using h.lsn1⟩
        · exact ⟨false, by simp [h1, h2, h3], fun h => (h3 h.lsn0).elim⟩
      · exact ⟨false, by simp [h1, h2], fun h => (h2 h.id1).elim⟩
    · exact ⟨false, by simp [h1], fun h => (h1 h.id0).elim⟩
  obtain ⟨b, e1, hb⟩ := hp
  obtain ⟨d, e2, hd, hd2⟩ := Jm4 p
  unfold J1l
  simp only [e1, e2, Option.bind_some]
  cases b with
  | false => exact ⟨_, rfl, fun h => by cases hb h⟩
  | true =>
    cases d with
    | false => exact ⟨_, rfl, fun h => by cases hd2 h.cells⟩
    | true =>
      have a1 := Jad [] p.LSN (k := 8) (by omega) (by omega) (by simp)
      have a2 := Jad ([] ++ J05 p.LSN 8) p.ID (k := 4) (by omega) (by omega) (by simp [J07])
      obtain ⟨r, hr, hq⟩ := JpJ p (hd rfl) ([] ++ J05 p.LSN 8 ++ J05 p.ID 4) (by simp)
      refine ⟨r, ?_, fun _ => hq⟩
      simp only [if_true]
      rw [show (8 : Int) = ((8 : Nat) : Int) by rfl, a1, Option.bind_some, show (4 : Int) = ((4 : Nat) : Int) by rfl, a2, Option.bind_some]
      exact hr
theorem Jur (s : List UInt8) (hs : s.length ≤ 1000) {at_ k : Nat} (h1 : 1 ≤ k) (h8 : k ≤ 8) (ha : at_ ≤ 1000) : ∃ r, J0L s at_ k = some r := by
  have c1 : ¬ ((k : Int) < 1) := by omega
  have c2 : ¬ ((k : Int) > 8) := by omega
  have c3 : ¬ ((at_ : Int) < 0) := by omega
  unfold J0L
  simp only [c1, c2, c3, decide_false, Bool.false_eq_true, if_false]
  by_cases c4 : (at_ : Int) > (s.length : Int)
  · exact ⟨(0, 5), by simp only [c4, decide_true, if_true]⟩
  · have e0 : IntKind.wrap .i64 ((s.length : Int) - at_) = (s.length : Int) - at_ := J0r (by omega) (by omega)
    simp only [c4, decide_false, Bool.false_eq_true, if_false, e0]
    by_cases c5 : (s.length : Int) - at_ < k
    · exact ⟨(0, 5), by simp only [c5, decide_true, if_true]⟩
    · simp only [c5, decide_false, Bool.false_eq_true, if_false]
      obtain ⟨r, hr, _⟩ := J1z (f := fun q : Int × Int => J0C s at_ k q.1 q.2) (fun q => ∃ j : Nat, q.2 = j ∧ j ≤ k) (fun q => (k - q.2).toNat) (fun _ => True) (fun q ⟨j, hj, h4⟩ => by
        obtain ⟨x, j'⟩ := q
        simp only at hj
        subst hj
        by_cases hlt : j < k
        · left
          have e1 : ((j : Nat) : Int) < (k : Int) := by omega
          have e2 : IntKind.wrap .i64 ((at_ : Int) + (j : Int)) = ((at_ + j : Nat) : Int) := by rw [J0r (by omega) (by omega)]; omega
          have e3 : IntKind.wrap .i64 (8 * (j : Int)) = ((8 * j : Nat) : Int) := by rw [J0r (by omega) (by omega)]; omega
          have e4 : ∀ z : Int, ∃ y, JdY .u64 z ((8 * j : Nat) : Int) = some y := fun z => ⟨_, if_neg (by omega)⟩
          obtain ⟨y, e5⟩ := e4 (IntKind.wrap .u64 (((s[at_ + j]).toNat : Nat) : Int))
          exact ⟨⟨_, ((j + 1 : Nat) : Int)⟩, by simp only [J0C, e1, decide_true, if_true, e2, J95 (show at_ + j < s.length by omega), Option.bind_some, e3, e5, J1G (show j < 1000000 by omega)]; rfl, ⟨j + 1, rfl, by omega⟩, by simp; omega⟩
        · right
          have e1 : ¬ ((j : Nat) : Int) < (k : Int) := by omega
          exact ⟨_, by simp only [J0C, e1, decide_false, Bool.false_eq_true, if_false, J67, Option.map_some]; rfl, trivial⟩) (0, 0) ⟨0, rfl, by omega⟩
      exact ⟨r, hr⟩
theorem Jjb (s : List UInt8) (hs : s.length ≤ 1000) {at_ : Nat} (ha : at_ < s.length) : J0L s at_ 1 = some (((s[at_]).toNat : Int), 0) := by
  have c3 : ¬ ((at_ : Int) < 0) := by omega
  have c4 : ¬ ((at_ : Int) > (s.length : Int)) := by omega
  have e0 : IntKind.wrap .i64 ((s.length : Int) - at_) = (s.length : Int) - at_ := J0r (by omega) (by omega)
  have c5 : ¬ ((s.length : Int) - at_ < 1) := by omega
  unfold J0L
  simp only [show ¬ ((1 : Int) < 1) by omega, show ¬ ((1 : Int) > 8) by omega, c3, c4, e0, c5, decide_false, Bool.false_eq_true, if_false]
  have hu : (s[at_]).toNat < 256 := UInt8.toNat_lt _
  have w0 : IntKind.wrap .u64 (((s[at_]).toNat : Nat) : Int) = (((s[at_]).toNat : Nat) : Int) := JaL (by omega) (by omega)
  have e2 : IntKind.wrap .i64 ((at_ : Int) + 0) = (at_ : Int) := by rw [J0r (by omega) (by omega)]; omega
  have e3 : JdY .u64 (((s[at_]).toNat : Nat) : Int) (IntKind.wrap .i64 (8 * 0)) = some (((s[at_]).toNat : Nat) : Int) := by
    rw [show IntKind.wrap .i64 (8 * 0) = 0 by rfl]
    show some (IntKind.wrap .u64 ((((s[at_]).toNat : Nat) : Int) * 2 ^ 0)) = _
    rw [show ((((s[at_]).toNat : Nat) : Int) * 2 ^ 0) = (((s[at_]).toNat : Nat) : Int) by omega, w0]
  have e4 : orI .u64 0 (((s[at_]).toNat : Nat) : Int) = (((s[at_]).toNat : Nat) : Int) := by
    have h2 : (BitVec.ofInt 64 0 ||| BitVec.ofInt 64 (((s[at_]).toNat : Nat) : Int)).toNat = (s[at_]).toNat := by
      rw [show BitVec.ofInt 64 0 = 0#64 by rfl, BitVec.zero_or, BitVec.toNat_ofInt]
      omega
    show IntKind.wrap .u64 (((BitVec.ofInt 64 0 ||| BitVec.ofInt 64 (((s[at_]).toNat : Nat) : Int)).toNat : Nat) : Int) = _
    rw [h2, w0]
  have s0 : J0C s at_ 1 0 0 = some (.inl ((((s[at_]).toNat : Nat) : Int), 1)) := by
    simp only [J0C, show ((0 : Int) < 1) by omega, decide_true, if_true, e2, J95 ha, Option.bind_some, w0, e3, e4, show IntKind.wrap .i64 ((0 : Int) + 1) = 1 by rfl]
  have s1 : J0C s at_ 1 (((s[at_]).toNat : Nat) : Int) 1 = some (.inr ((((s[at_]).toNat : Nat) : Int), 0)) := by
    simp only [J0C, show ¬ ((1 : Int) < 1) by omega, decide_false, Bool.false_eq_true, if_false, J67, Option.map_some, J0r (show -9223372036854775808 ≤ (((s[at_]).toNat : Nat) : Int) by omega) (by omega)]
  exact (J41 (f := fun q : Int × Int => J0C s at_ 1 q.1 q.2) (s := (0, 0)) s0).trans (J33 s1)
theorem Jb7 (s : List UInt8) (hs : s.length ≤ 1000) {at_ k : Nat} (h1 : 1 ≤ k) (h8 : k ≤ 8) (ha : at_ ≤ 1000) : ∃ r, J09 s at_ k = some r := by
  obtain ⟨r, hr⟩ := Jur s hs h1 h8 ha
  exact ⟨r.1, by simp [J09, hr]⟩
theorem JvR {α : Type} (l : List α) {a b : Nat} (h1 : a ≤ b) (h2 : b ≤ l.length) : J34 l (some (a : Int)) (some (b : Int)) = some ((l.drop a).take (b - a)) := by
  have e1 : (0 : Int) ≤ b ∧ (b : Int) ≤ l.length := by omega
  have e2 : (0 : Int) ≤ a ∧ (a : Int) ≤ b := by omega
  simp only [J34, Jgw, JdR, e1, e2, and_self, if_true, Int.toNat_natCast]
theorem JgA {α : Type} (l : List α) {b : Nat} (h2 : b ≤ l.length) : J34 l none (some (b : Int)) = some (l.take b) := by
  have e1 : (0 : Int) ≤ b ∧ (b : Int) ≤ l.length := by omega
  simp only [J34, Jgw, JdR, e1, and_self, if_true, Int.toNat_natCast, List.drop_zero, Nat.sub_zero]
theorem JiX {α : Type} (l : List α) {a : Nat} (h2 : a ≤ l.length) : J34 l (some (a : Int)) none = some (l.drop a) := by
  have e1 : (0 : Int) ≤ a ∧ (a : Int) ≤ l.length := by omega
  simp only [J34, Jgw, JdR, e1, and_self, if_true, Int.toNat_natCast]
  rw [List.take_of_length_le (by simp)]
theorem Jns (s : List UInt8) (hs : s.length = 256) : ∃ r, J6p s = some r := by
  obtain ⟨r1, a1⟩ := Jb7 s (by omega) (at_ := 8) (k := 4) (by omega) (by omega) (by omega)
  obtain ⟨r2, a2⟩ := Jb7 s (by omega) (at_ := 0) (k := 8) (by omega) (by omega) (by omega)
  have a1' : J09 s 8 4 = some r1 := a1
  have a2' : J09 s 0 8 = some r2 := a2
  unfold J6p
  simp only [a1', a2', Option.bind_some]
  obtain ⟨r, hr, _⟩ := J1z (f := fun q : Int × T_api_Page => J1C s ⟨0, 0, Vector.replicate 16 ⟨false, []⟩⟩ q.1 q.2) (fun q => ∃ j : Nat, q.1 = j ∧ j ≤ 16) (fun q => (16 - q.1).toNat) (fun _ => True) (fun q ⟨j, hj, h4⟩ => by
    obtain ⟨j', p⟩ := q
    simp only at hj
    subst hj
    by_cases hlt : j < 16
    · have e1 : ((j : Nat) : Int) < 16 := by omega
      have e2 : IntKind.wrap .i64 (12 + IntKind.wrap .i64 ((j : Int) * 13)) = ((12 + 13 * j : Nat) : Int) := by
        rw [J0r (n := (j : Int) * 13) (by omega) (by omega), J0r (by omega) (by omega)]; omega
      have hu : (s[12 + 13 * j]'(by omega)).toNat < 256 := UInt8.toNat_lt _
      have e3 : J09 s ((12 + 13 * j : Nat) : Int) 1 = some (((s[12 + 13 * j]'(by omega)).toNat : Nat) : Int) := by
        simp only [J09, Jjb s (by omega) (show 12 + 13 * j < s.length by omega), Option.bind_some]
      generalize hv : (s[12 + 13 * j]'(by omega)).toNat = v at e3 hu
      by_cases h255 : v = 255
      · left
        subst h255
        exact ⟨⟨((j + 1 : Nat) : Int), p⟩, by simp only [J1C, e1, decide_true, if_true, e2, e3, Option.bind_some, J1G (show j < 1000000 by omega)]; rfl, ⟨j + 1, rfl, by omega⟩, by simp; omega⟩
      · have e4 : (((v : Nat) : Int) == 255) = false := by simp; omega
        by_cases h12 : ((v : Nat) : Int) > 12
        · right
          exact ⟨_, by simp only [J1C, e1, decide_true, if_true, e2, e3, Option.bind_some, e4, Bool.false_eq_true, if_false, h12]; rfl, trivial⟩
        · left
          have e5 : IntKind.wrap .i64 (((12 + 13 * j : Nat) : Int) + 1) = ((13 + 13 * j : Nat) : Int) := by rw [J0r (by omega) (by omega)]; omega
          have e6 : IntKind.wrap .i64 (((13 + 13 * j : Nat) : Int) + ((v : Nat) : Int)) = ((13 + 13 * j + v : Nat) : Int) := by rw [J0r (by omega) (by omega)]; omega
          have e7 := JvR s (a := 13 + 13 * j) (b := 13 + 13 * j + v) (by omega) (by omega)
          exact ⟨⟨((j + 1 : Nat) : Int), _⟩, by simp only [J1C, e1, decide_true, if_true, e2, e3, Option.bind_some, e4, Bool.false_eq_true, if_false, h12, decide_false, e5, e6, e7, J9R hlt, J49 _ j hlt, J1G (show j < 1000000 by omega)]; rfl, ⟨j + 1, rfl, by omega⟩, by simp; omega⟩
    · right
      have e1 : ¬ ((j : Nat) : Int) < 16 := by omega
      exact ⟨_, by simp only [J1C, e1, decide_false, Bool.false_eq_true, if_false, J7m, Option.map_some]; rfl, trivial⟩) (0, ⟨r1, r2, Vector.replicate 16 ⟨false, []⟩⟩) ⟨0, rfl, by omega⟩
  exact ⟨r, hr⟩
end Go.Am
end
section
namespace Go.Am
def blk : List UInt8 := List.replicate 256 0
theorem Jts : blk.take 8 = J05 0 8 := by decide +kernel
theorem Jty : blk.drop 248 = J05 0 8 := by decide +kernel
theorem Jii : J6S = some blk := by
  unfold J6S
  rw [JcX (n := 256) (by omega) (by omega)]
  rfl
theorem JqH (x : List UInt8) (hx : x.length = 256) : ∃ r, J1O x = some r ∧ (r.2 = 0 ∨ r.2 = 7 → x.take 8 = x.drop 248) := by
  unfold J1O
  have e0 : (((x.length : Nat) : Int) != 256) = false := by rw [hx]; rfl
  have e1 : J34 x none (some 8) = some (x.take 8) := JgA x (b := 8) (by omega)
  have e2 : J34 x (some 248) none = some (x.drop 248) := JiX x (a := 248) (by omega)
  have e3 : J34 x none (some 244) = some (x.take 244) := JgA x (b := 244) (by omega)
  obtain ⟨n, e4⟩ := Jb7 x (by omega) (at_ := 244) (k := 4) (by omega) (by omega) (by omega)
  have e4' : J09 x 244 4 = some n := e4
  obtain ⟨c, e5⟩ := JnG (x.take 244) (by simp; omega)
  obtain ⟨p, e6⟩ := Jns x hx
  obtain ⟨q, e7, _⟩ := JjC p.1
  simp only [e0, Bool.false_eq_true, if_false, Jii, Option.bind_some]
  by_cases hb : x = blk
  · refine ⟨_, by rw [if_pos (by simpa using hb)], fun _ => ?_⟩
    rw [hb, Jts, Jty]
  · have hb' : (x == blk) = false := by simpa using hb
    simp only [hb', Bool.false_eq_true, if_false, e1, e2, Option.bind_some]
    by_cases hp : x.take 8 = x.drop 248
    · have hp' : (x.take 8 == x.drop 248) = true := by simpa using hp
      simp only [hp', if_true, e4', e3, e5, e6, e7, Option.bind_some]
      split
      · exact ⟨_, rfl, fun _ => hp⟩
      · split
        · split
          · exact ⟨_, rfl, fun _ => hp⟩
          · split
            · exact ⟨_, rfl, fun _ => hp⟩
            · exact ⟨_, rfl, fun _ => hp⟩
        · exact ⟨_, rfl, fun _ => hp⟩
    · have hp' : (x.take 8 == x.drop 248) = false := by simpa using hp
      simp only [hp', Bool.false_eq_true, if_false]
      exact ⟨_, rfl, fun h => by rcases h with h | h <;> cases h⟩
end Go.Am
end
section
namespace Go.Am
theorem JrD {x b j : Nat} (hj : j ≤ 7) (hx : x < 2 ^ (8 * j)) (hb : b < 256) :
    orI .u64 (x : Int) (IntKind.wrap .u64 (((b : Nat) : Int) * 2 ^ (8 * j))) = ((x + b * 2 ^ (8 * j) : Nat) : Int) := by
  have p1 : (2 : Nat) ^ (8 * j) * 256 ≤ 2 ^ 64 := by
    rw [show (256 : Nat) = 2 ^ 8 by rfl, ← Nat.pow_add]
    exact Nat.pow_le_pow_right (by omega) (by omega)
  have p2 : b * 2 ^ (8 * j) + 2 ^ (8 * j) ≤ 2 ^ 64 := by
    have : (b + 1) * 2 ^ (8 * j) ≤ 256 * 2 ^ (8 * j) := Nat.mul_le_mul_right _ (by omega)
    rw [Nat.add_mul, Nat.one_mul] at this
    omega
  have w : IntKind.wrap .u64 (((b : Nat) : Int) * 2 ^ (8 * j)) = ((b * 2 ^ (8 * j) : Nat) : Int) := by
    have e : (((b : Nat) : Int) * 2 ^ (8 * j)) = ((b * 2 ^ (8 * j) : Nat) : Int) := by simp
    rw [e, JaL (by omega) (by omega)]
  rw [w]
  have e1 : ∀ y : Nat, y < 2 ^ 64 → (BitVec.ofInt 64 (y : Int)).toNat = y := by
    intro y hy
    rw [BitVec.toNat_ofInt]
    omega
  show IntKind.wrap .u64 (((BitVec.ofInt 64 (x : Int) ||| BitVec.ofInt 64 ((b * 2 ^ (8 * j) : Nat) : Int)).toNat : Nat) : Int) = _
  rw [BitVec.toNat_or, e1 x (by omega), e1 _ (by omega)]
  have e2 : x ||| b * 2 ^ (8 * j) = x + b * 2 ^ (8 * j) := by
    rw [Nat.or_comm, Nat.mul_comm b, ← Nat.two_pow_add_eq_or_of_lt hx, Nat.add_comm]
  rw [e2, JaL (by omega) (by omega)]
theorem Jqp {n i : Nat} (hn : n < 2 ^ 64) : J6R (n : Int) i = ((n / 2 ^ (8 * i) % 256 : Nat) : Int) := by
  show ((IntKind.wrap .u64 (n : Int)).fdiv (2 ^ (8 * i))) % 256 = _
  rw [Int.fdiv_eq_ediv_of_nonneg _ (Int.le_of_lt (Int.pow_pos (by decide))), JaL (by omega) (by omega)]
  simp
theorem JtW {n : Int} {k i : Nat} (h : i < k) : (J05 n k)[i]? = some (UInt8.ofNat (J6R n i).toNat) := by
  simp [J05, toStr, h]
theorem Jvs (pre post : List UInt8) {n k : Nat} (h1 : 1 ≤ k) (h8 : k ≤ 8) (hn : n < 2 ^ (8 * k)) (hn2 : n < 2 ^ 63) (hl : (pre ++ (J05 n k ++ post)).length ≤ 1000) :
    J0L (pre ++ (J05 n k ++ post)) (pre.length : Int) (k : Int) = some ((n : Int), 0) := by
  generalize hs : pre ++ (J05 n k ++ post) = s at hl
  have hlen : pre.length + k ≤ s.length := by rw [← hs]; simp [J07]
  have c1 : ¬ ((k : Int) < 1) := by omega
  have c2 : ¬ ((k : Int) > 8) := by omega
  have c3 : ¬ ((pre.length : Int) < 0) := by omega
  have c4 : ¬ ((pre.length : Int) > (s.length : Int)) := by omega
  have e0 : IntKind.wrap .i64 ((s.length : Int) - pre.length) = (s.length : Int) - pre.length := J0r (by omega) (by omega)
  have c5 : ¬ ((s.length : Int) - pre.length < k) := by omega
  unfold J0L
  simp only [c1, c2, c3, c4, c5, e0, decide_false, Bool.false_eq_true, if_false]
  have key : ∀ (m j : Nat), j + m = k → JK (fun q : Int × Int => J0C s pre.length k q.1 q.2) (((n % 2 ^ (8 * j) : Nat) : Int), (j : Int)) = some ((n : Int), 0) := by
    intro m
    induction m with
    | zero =>
      intro j hj
      obtain rfl : j = k := by omega
      have e1 : ¬ ((j : Nat) : Int) < (j : Int) := by omega
      refine J33 ?_
      simp only [J0C, e1, decide_false, Bool.false_eq_true, if_false, J67, Option.map_some, Nat.mod_eq_of_lt hn]
      rw [J0r (by omega) (by omega)]
    | succ m ih =>
      intro j hj
      have e1 : ((j : Nat) : Int) < (k : Int) := by omega
      have e2 : IntKind.wrap .i64 ((pre.length : Int) + (j : Int)) = ((pre.length + j : Nat) : Int) := by rw [J0r (by omega) (by omega)]; omega
      have e3 : IntKind.wrap .i64 (8 * (j : Int)) = ((8 * j : Nat) : Int) := by rw [J0r (by omega) (by omega)]; omega
      have hb : (s[pre.length + j]'(by omega)).toNat = n / 2 ^ (8 * j) % 256 := by
        have h5 : s[pre.length + j]? = some (UInt8.ofNat (J6R (n : Int) j).toNat) := by
          rw [← hs, List.getElem?_append_right (by omega), Nat.add_sub_cancel_left, List.getElem?_append_left (by rw [J07]; omega), JtW (by omega)]
        rw [List.getElem?_eq_getElem (by omega)] at h5
        injection h5 with h5
        have h6 := Jk0 (n : Int) j
        rw [← h5, Jqp (by omega)] at h6
        omega
      have hb2 : n / 2 ^ (8 * j) % 256 < 256 := Nat.mod_lt _ (by omega)
      have e4 : JdY .u64 (IntKind.wrap .u64 (((s[pre.length + j]'(by omega)).toNat : Nat) : Int)) ((8 * j : Nat) : Int) = some (IntKind.wrap .u64 (((n / 2 ^ (8 * j) % 256 : Nat) : Int) * 2 ^ (8 * j))) := by
        rw [hb, JaL (by omega) (by omega)]
        simp only [JdY]
        rw [if_neg (by omega)]
        have : min (((8 * j : Nat) : Int)).toNat IntKind.u64.bits = 8 * j := by
          simp only [Int.toNat_natCast]
          exact Nat.min_eq_left (by show 8 * j ≤ 64; omega)
        rw [this]
      have e5 := JrD (x := n % 2 ^ (8 * j)) (b := n / 2 ^ (8 * j) % 256) (j := j) (by omega) (Nat.mod_lt _ (Nat.two_pow_pos _)) hb2
      have e6 : n % 2 ^ (8 * j) + n / 2 ^ (8 * j) % 256 * 2 ^ (8 * j) = n % 2 ^ (8 * (j + 1)) := by
        rw [Nat.mul_add, Nat.pow_add, Nat.mod_mul, Nat.mul_comm (n / 2 ^ (8 * j) % 256)]
      rw [e6] at e5
      refine (J41 (s' := (((n % 2 ^ (8 * (j + 1)) : Nat) : Int), ((j + 1 : Nat) : Int))) ?_).trans (ih (j + 1) (by omega))
      simp only [J0C, e1, decide_true, if_true, e2, J95 (show pre.length + j < s.length by omega), Option.bind_some, e3, e4, e5, J1G (show j < 1000000 by omega)]
  have h0 := key k 0 (by omega)
  simp only [Nat.mul_zero, Nat.pow_zero, Nat.mod_one] at h0
  exact h0
end Go.Am
end
section
namespace Go.Am
def Jcw (c : J8) : List UInt8 := J05 (if c.Set then (c.Data.length : Int) else 255) 1 ++ c.Data ++ List.replicate (12 - c.Data.length) 0
theorem Jrp {c : J8} (h : c.Data.length ≤ 12) : (Jcw c).length = 13 := by
  simp only [Jcw, List.length_append, J07, List.length_replicate]; omega
theorem Jsg (b : T_page_builder) (c : J8) (hc : c.Data.length ≤ 12) (hb : b.s_.length ≤ 300) : J29 b c = some ⟨b.s_ ++ Jcw c⟩ := by
  have go : ∀ x : Int, J1H x b c = some ⟨b.s_ ++ (J05 x 1 ++ c.Data ++ List.replicate (12 - c.Data.length) 0)⟩ := by
    intro x
    have e0 : IntKind.wrap .i64 (12 - ((c.Data.length : Nat) : Int)) = ((12 - c.Data.length : Nat) : Int) := by rw [J0r (by omega) (by omega)]; omega
    have e1 := Jad b.s_ x (k := 1) (by omega) (by omega) (by omega)
    have e2 : J4a (b.s_ ++ J05 x 1) c.Data = some (b.s_ ++ J05 x 1 ++ c.Data) := Jeg (by rw [List.length_append, J07]; omega) (by omega)
    have e3 := JcX (n := ((12 - c.Data.length : Nat) : Int)) (by omega) (by omega)
    rw [Int.toNat_natCast] at e3
    have e4 : J4a (b.s_ ++ J05 x 1 ++ c.Data) (List.replicate (12 - c.Data.length) 0) = some (b.s_ ++ J05 x 1 ++ c.Data ++ List.replicate (12 - c.Data.length) 0) := Jeg (by simp only [List.length_append, J07]; omega) (by simp; omega)
    unfold J1H
    rw [show (1 : Int) = ((1 : Nat) : Int) by rfl, e1, Option.bind_some, e2, Option.bind_some, e0, e3, Option.bind_some, e4, Option.bind_some]
    simp only [List.append_assoc]
  unfold J29 Jcw
  cases hs : c.Set with
  | true => simp only [if_true]; exact go _
  | false => simp only [Bool.false_eq_true, if_false]; exact go _
end Go.Am
end
section
namespace Go.Am
def J5c (l : List J8) : List UInt8 := (l.map Jcw).flatten
theorem Jcr : ∀ {l : List J8}, (∀ c ∈ l, c.Data.length ≤ 12) → (J5c l).length = 13 * l.length
  | [], _ => rfl
  | c :: l, h => by
    have h1 := Jrp (h c (by simp))
    have h2 := Jcr (l := l) fun d hd => h d (by simp [hd])
    simp only [J5c, List.map_cons, List.flatten_cons, List.length_append, List.length_cons] at h2 ⊢
    omega
theorem Jiw (l : List J8) (c : J8) : J5c (l ++ [c]) = J5c l ++ Jcw c := by simp [J5c]
def J3p (p : T_api_Page) : List UInt8 := J05 p.LSN 8 ++ J05 p.ID 4 ++ J5c p.Cells.toList ++ List.replicate 24 0
theorem Jpt {p : T_api_Page} (hp : J7G p) : ∃ c, J3f (J3p p) = some c ∧ J1l p = some (J3p p ++ J05 (IntKind.wrap .i64 c) 4 ++ J05 p.LSN 8, 0) := by
  have hd : ∀ c ∈ p.Cells.toList, c.Data.length ≤ 12 := by
    intro c hc
    obtain ⟨i, hi, rfl⟩ := List.getElem_of_mem hc
    have h16 : i < 16 := by simpa using hi
    have := (hp.cells i h16).1
    simpa using this
  have loop := J1z (f := fun s : Int × T_page_builder => J2o p.Cells p s.1 s.2) (fun s => ∃ j : Nat, s.1 = j ∧ j ≤ 16 ∧ s.2.s_ = J05 p.LSN 8 ++ J05 p.ID 4 ++ J5c (p.Cells.toList.take j)) (fun s => (16 - s.1).toNat)
    (fun r => ∃ c, J3f (J3p p) = some c ∧ r = (J3p p ++ J05 (IntKind.wrap .i64 c) 4 ++ J05 p.LSN 8, 0)) (fun s ⟨j, hj, h4, ht⟩ => by
    obtain ⟨j', b⟩ := s
    simp only at hj ht
    subst hj
    have hl : (J5c (p.Cells.toList.take j)).length = 13 * j := by
      rw [Jcr fun c hc => hd c (List.mem_of_mem_take hc)]
      simp; omega
    have hbl : b.s_.length = 12 + 13 * j := by rw [ht]; simp only [List.length_append, J07, hl]
    by_cases hlt : j < 16
    · left
      have e1 : ((j : Nat) : Int) < 16 := by omega
      have e2 := Jsg b p.Cells[j] (hp.cells j hlt).1 (by omega)
      have e3 : p.Cells.toList.take (j + 1) = p.Cells.toList.take j ++ [p.Cells[j]] := by
        rw [List.take_add_one, List.getElem?_eq_getElem (by simpa using hlt)]
        simp
      exact ⟨⟨((j + 1 : Nat) : Int), ⟨b.s_ ++ Jcw p.Cells[j]⟩⟩, by simp only [J2o, e1, decide_true, if_true, J49 _ j hlt, Option.bind_some, e2, J1G (show j < 1000000 by omega)], ⟨j + 1, rfl, by omega, by show b.s_ ++ _ = _; rw [ht, e3, Jiw]; simp only [List.append_assoc]⟩, by simp; omega⟩
    · right
      obtain rfl : j = 16 := by omega
      have e1 : ¬ (((16 : Nat) : Nat) : Int) < 16 := by omega
      have e5 : p.Cells.toList.take 16 = p.Cells.toList := List.take_of_length_le (by simp)
      rw [e5] at ht
      have a0 : IntKind.wrap .i64 (244 - ((b.s_.length : Nat) : Int)) = 24 := by rw [hbl, J0r (by omega) (by omega)]; omega
      have a1 : J46 [0] 24 = some (List.replicate 24 0) := JcX (n := 24) (by omega) (by omega)
      have a6 : b.s_ ++ List.replicate 24 0 = J3p p := by rw [ht]; rfl
      have a7 : (J3p p).length = 244 := by rw [← a6]; simp [hbl]
      have a2 : J4a b.s_ (List.replicate 24 0) = some (J3p p) := by rw [← a6]; exact Jeg (by omega) (by simp)
      obtain ⟨r, a3⟩ := JnG (J3p p) (by omega)
      have a4 := Jad (J3p p) (IntKind.wrap .i64 r) (k := 4) (by omega) (by omega) (by omega)
      have a5 := Jad (J3p p ++ J05 (IntKind.wrap .i64 r) 4) p.LSN (k := 8) (by omega) (by omega) (by simp [a7, J07])
      refine ⟨_, ?_, r, a3, rfl⟩
      simp only [J2o, e1, decide_false, Bool.false_eq_true, if_false, J7M, a0, a1, a2, a3, Option.bind_some]
      rw [show (4 : Int) = ((4 : Nat) : Int) by rfl, a4, Option.bind_some, show (8 : Int) = ((8 : Nat) : Int) by rfl, a5]
      rfl) (0, ⟨J05 p.LSN 8 ++ J05 p.ID 4⟩) ⟨0, rfl, by omega, by simp [J5c]⟩
  obtain ⟨r, hr, c, hc, rfl⟩ := loop
  refine ⟨c, hc, ?_⟩
  obtain ⟨d, e2, _, hd2⟩ := Jm4 p
  have hd3 := hd2 hp.cells
  subst hd3
  have e1 : J1P p = some true := by
    have i0 := hp.id0; have i1 := hp.id1; have l0 := hp.lsn0; have l1 := hp.lsn1
    simp [J1P, J2F, i0, i1, l0, l1]
  have a1 := Jad [] p.LSN (k := 8) (by omega) (by omega) (by simp)
  have a2 := Jad ([] ++ J05 p.LSN 8) p.ID (k := 4) (by omega) (by omega) (by simp [J07])
  unfold J1l
  simp only [e1, e2, Option.bind_some, if_true]
  rw [show (8 : Int) = ((8 : Nat) : Int) by rfl, a1, Option.bind_some, show (4 : Int) = ((4 : Nat) : Int) by rfl, a2, Option.bind_some, List.nil_append]
  exact hr
end Go.Am
end
section
namespace Go.Am
theorem Jd0 {p : T_api_Page} (hp : J7G p) : (J3p p).length = 244 := by
  have hd : ∀ c ∈ p.Cells.toList, c.Data.length ≤ 12 := by
    intro c hc
    obtain ⟨i, hi, rfl⟩ := List.getElem_of_mem hc
    have h16 : i < 16 := by simpa using hi
    have := (hp.cells i h16).1
    simpa using this
  unfold J3p
  simp only [List.length_append, J07, List.length_replicate]
  rw [Jcr hd]
  simp
end Go.Am
end
section
namespace Go.Am
end Go.Am
end
section
namespace Go.Am
theorem Jso {b : T_pagemenddraw_Codes} (hb : J0m b) : ∃ x b', J2x b = some (x, b') ∧ J0m b' := by
  obtain ⟨r, b1, e1, hb1, _, _⟩ := J2N hb (n := 10) (by omega) (by omega)
  unfold J2x
  simp only [e1, Option.bind_some]
  by_cases h0 : r = 0
  · obtain ⟨r2, b2, e2, hb2, _, _⟩ := J2N hb1 (n := 3) (by omega) (by omega)
    exact ⟨_, b2, by rw [if_pos (by simpa using h0), e2]; rfl, hb2⟩
  · rw [if_neg (by simpa using h0)]
    by_cases h1 : r = 1
    · obtain ⟨r2, b2, e2, hb2, hr0, hr1⟩ := J2N hb1 (n := 16) (by omega) (by omega)
      obtain ⟨k, rfl⟩ : ∃ k : Nat, r2 = (k : Int) := ⟨r2.toNat, by omega⟩
      rw [if_pos (by simpa using h1), e2]
      simp only [Option.bind_some, Jea]
      rw [List.getElem?_eq_getElem (by simp; omega)]
      exact ⟨_, b2, rfl, hb2⟩
    · obtain ⟨r2, b2, e2, hb2, _, _⟩ := J2N hb1 (n := 20) (by omega) (by omega)
      rw [if_neg (by simpa using h1), e2]
      exact ⟨_, b2, rfl, hb2⟩
end Go.Am
end
section
namespace Go.Am
def Jh9 (p : T_api_Page) : Prop := ∀ (i : Nat) (h : i < 16), J6g p.LSN p.Cells[i]
theorem JlL (p : T_api_Page) : ∃ b, J5E p = some b ∧ (b = true ↔ Jh9 p) := by
  refine J1z (f := fun s : Int => J0B p.Cells p s) (fun s => ∃ j : Nat, s = j ∧ j ≤ 16 ∧ ∀ (i : Nat) (h : i < 16), i < j → J6g p.LSN p.Cells[i]) (fun s => (16 - s).toNat)
    (fun b => b = true ↔ Jh9 p) (fun s ⟨j, hj, h4, hc⟩ => ?_) 0 ⟨0, rfl, by omega, fun i h hh => by omega⟩
  subst hj
  by_cases hlt : j < 16
  · have e1 : ((j : Nat) : Int) < 16 := by omega
    have e2 := J49 p.Cells j hlt
    have e3 := J1G (show j < 1000000 by omega)
    have bad : ¬ J6g p.LSN p.Cells[j] → (false = true ↔ Jh9 p) := fun h1 => ⟨fun h => (by cases h), fun h2 => (h1 (h2 j hlt)).elim⟩
    have nxt : J6g p.LSN p.Cells[j] → ∀ (i : Nat) (h : i < 16), i < j + 1 → J6g p.LSN p.Cells[i] := by
      intro hok i hi hij
      by_cases hh : i < j
      · exact hc i hi hh
      · obtain rfl : i = j := by omega
        exact hok
    by_cases h12 : (((p.Cells[j]).Data.length : Nat) : Int) > 12
    · right
      exact ⟨false, by simp only [J0B, e1, decide_true, if_true, e2, Option.bind_some, h12], bad fun h => by have := h.1; omega⟩
    · by_cases hs : (p.Cells[j]).Set = true
      · by_cases hl : p.LSN = 0
        · right
          exact ⟨false, by simp only [J0B, e1, decide_true, if_true, e2, Option.bind_some, h12, decide_false, Bool.false_eq_true, if_false, hs, hl, beq_self_eq_true], bad fun h => h.2.2 hs hl⟩
        · left
          have e4 : (p.LSN == 0) = false := by simpa using hl
          exact ⟨((j + 1 : Nat) : Int), by simp only [J0B, e1, decide_true, if_true, e2, Option.bind_some, h12, decide_false, Bool.false_eq_true, if_false, hs, e4, e3], ⟨j + 1, rfl, by omega, nxt ⟨by omega, (fun h => by rw [hs] at h; cases h), fun _ => hl⟩⟩, by omega⟩
      · have hs' : (p.Cells[j]).Set = false := by simpa using hs
        by_cases hd : (p.Cells[j]).Data = []
        · left
          exact ⟨((j + 1 : Nat) : Int), by simp only [J0B, e1, decide_true, if_true, e2, Option.bind_some, h12, decide_false, Bool.false_eq_true, if_false, hs', hd, beq_self_eq_true, e3]; rfl, ⟨j + 1, rfl, by omega, nxt ⟨by omega, fun _ => hd, fun h => (hs h).elim⟩⟩, by omega⟩
        · right
          have e4 : ((p.Cells[j]).Data == []) = false := by simpa using hd
          exact ⟨false, by simp only [J0B, e1, decide_true, if_true, e2, Option.bind_some, h12, decide_false, Bool.false_eq_true, if_false, hs', e4], bad fun h => hd (h.2.1 hs')⟩
  · right
    have e1 : ¬ ((j : Nat) : Int) < 16 := by omega
    exact ⟨true, by simp only [J0B, e1, decide_false, Bool.false_eq_true, if_false, J89, Option.map_some], fun _ i h => hc i h (by omega), fun _ => rfl⟩
end Go.Am
end
section
namespace Go.Am
theorem Jgv {n : Int} (h0 : 0 ≤ n) (h1 : n ≤ 1000000) : J2I n = some (List.replicate n.toNat 0) := by
  have e : (0 : Int) ≤ n ∧ n ≤ n ∧ ((1 : Nat) : Int) * n ≤ 281474976710656 ∧ n ≤ 281474976710656 := by omega
  have e2 : toStr (List.replicate n.toNat (0 : Int)) = List.replicate n.toNat 0 := by
    simp [toStr]
  unfold J2I mkS
  rw [if_pos e, Option.bind_some, e2]
theorem JlY : J4X = some blk := by
  unfold J4X
  rw [Jgv (by omega) (by omega)]
  rfl
theorem Juu (n : Int) : J94 n = J9L n := rfl
theorem Jp5 (p : T_api_Page) : J4D p = J1P p := by
  unfold J4D J1P J2F
  by_cases h1 : p.ID ≥ 0
  · by_cases h2 : p.ID < 64
    · simp only [h1, h2, decide_true, if_true, Option.bind_some]
    · simp only [h1, h2, decide_true, decide_false, if_true, Bool.false_eq_true, if_false, Option.bind_some]
  · simp only [h1, decide_false, Bool.false_eq_true, if_false, Option.bind_some]
theorem Jqq (p : T_api_Page) : ∃ b, J1P p = some b ∧ (b = true ↔ (0 ≤ p.ID ∧ p.ID < 64 ∧ 0 ≤ p.LSN ∧ p.LSN ≤ 1099511627776)) := by
  unfold J1P J2F
  by_cases h1 : p.ID ≥ 0
  · by_cases h2 : p.ID < 64
    · by_cases h3 : p.LSN ≥ 0
      · refine ⟨decide (p.LSN ≤ 1099511627776), by simp only [h1, h2, h3, decide_true, if_true, Option.bind_some], ?_⟩
        rw [decide_eq_true_eq]
        exact ⟨fun h => ⟨h1, h2, h3, h⟩, fun h => h.2.2.2⟩
      · exact ⟨false, by simp only [h1, h2, h3, decide_true, decide_false, if_true, Bool.false_eq_true, if_false, Option.bind_some], by simp; omega⟩
    · exact ⟨false, by simp only [h1, h2, decide_true, decide_false, if_true, Bool.false_eq_true, if_false, Option.bind_some], by simp; omega⟩
  · exact ⟨false, by simp only [h1, decide_false, Bool.false_eq_true, if_false, Option.bind_some], by simp; omega⟩
theorem Jmk (p : T_api_Page) : ∃ b, J64 p = some b ∧ (b = true ↔ Jh9 p) := by
  refine J1z (f := fun s : Int => J1Z p s) (fun s => ∃ j : Nat, s = j ∧ j ≤ 16 ∧ ∀ (i : Nat) (h : i < 16), i < j → J6g p.LSN p.Cells[i]) (fun s => (16 - s).toNat)
    (fun b => b = true ↔ Jh9 p) (fun s ⟨j, hj, h4, hc⟩ => ?_) 0 ⟨0, rfl, by omega, fun i h hh => by omega⟩
  subst hj
  by_cases hlt : j < 16
  · have e1 : ((j : Nat) : Int) < 16 := by omega
    have e2 := J49 p.Cells j hlt
    have e3 := J1G (show j < 1000000 by omega)
    have e0 := J9R hlt
    have bad : ¬ J6g p.LSN p.Cells[j] → (false = true ↔ Jh9 p) := fun h1 => ⟨fun h => (by cases h), fun h2 => (h1 (h2 j hlt)).elim⟩
    have nxt : J6g p.LSN p.Cells[j] → ∀ (i : Nat) (h : i < 16), i < j + 1 → J6g p.LSN p.Cells[i] := by
      intro hok i hi hij
      by_cases hh : i < j
      · exact hc i hi hh
      · obtain rfl : i = j := by omega
        exact hok
    by_cases h12 : (((p.Cells[j]).Data.length : Nat) : Int) ≤ 12
    · by_cases hs : (p.Cells[j]).Set = true
      · have v1 : J0P p.Cells[j] = some true := by simp only [J0P, h12, decide_true, if_true, hs]
        by_cases hl : p.LSN = 0
        · right
          exact ⟨false, by simp only [J1Z, e1, decide_true, if_true, e0, e2, Option.bind_some, v1, hs, hl, beq_self_eq_true], bad fun h => h.2.2 hs hl⟩
        · left
          have e4 : (p.LSN == 0) = false := by simpa using hl
          exact ⟨((j + 1 : Nat) : Int), by simp only [J1Z, e1, decide_true, if_true, e0, e2, Option.bind_some, v1, e4, Bool.false_eq_true, if_false, e3], ⟨j + 1, rfl, by omega, nxt ⟨by omega, (fun h => by rw [hs] at h; cases h), fun _ => hl⟩⟩, by omega⟩
      · have hs' : (p.Cells[j]).Set = false := by simpa using hs
        by_cases hd : (p.Cells[j]).Data = []
        · have v1 : J0P p.Cells[j] = some true := by simp only [J0P, h12, decide_true, if_true, hs', Bool.false_eq_true, if_false]; rw [hd]; rfl
          left
          refine ⟨((j + 1 : Nat) : Int), ?_, ⟨j + 1, rfl, by omega, nxt ⟨by omega, fun _ => hd, fun h => (hs h).elim⟩⟩, by omega⟩
          simp only [J1Z, e1, decide_true, if_true, e0, e2, Option.bind_some, v1, hs', Bool.false_eq_true, if_false, e3]
          split <;> rfl
        · right
          have e4 : ((p.Cells[j]).Data == []) = false := by simpa using hd
          have v1 : J0P p.Cells[j] = some false := by simp only [J0P, h12, decide_true, if_true, hs', Bool.false_eq_true, if_false, e4]
          exact ⟨false, by simp only [J1Z, e1, decide_true, if_true, e0, e2, Option.bind_some, v1, Bool.false_eq_true, if_false], bad fun h => hd (h.2.1 hs')⟩
    · right
      have v1 : J0P p.Cells[j] = some false := by simp only [J0P, h12, decide_false, Bool.false_eq_true, if_false]
      exact ⟨false, by simp only [J1Z, e1, decide_true, if_true, e0, e2, Option.bind_some, v1, Bool.false_eq_true, if_false], bad fun h => h12 (by have := h.1; omega)⟩
  · right
    have e1 : ¬ ((j : Nat) : Int) < 16 := by omega
    exact ⟨true, by simp only [J1Z, e1, decide_false, Bool.false_eq_true, if_false, J9n, Option.map_some], fun _ i h => hc i h (by omega), fun _ => rfl⟩
theorem JrT (p : T_api_Page) : J64 p = J5E p := by
  obtain ⟨b, h1, h2⟩ := JlL p
  obtain ⟨c, h3, h4⟩ := Jmk p
  rw [h1, h3]
  congr 1
  cases b <;> cases c <;> simp_all
def Jhi (p : T_api_Page) : List UInt8 := J3p p ++ J05 ((crc (J3p p) : Nat) : Int) 4 ++ J05 p.LSN 8
theorem Jm7 {p : T_api_Page} (hp : J7G p) : J1l p = some (Jhi p, 0) := by
  obtain ⟨c, h1, h2⟩ := Jpt hp
  rw [Joo _ (by rw [Jd0 hp]; omega)] at h1
  injection h1 with h1
  subst h1
  have hc := JnD (J3p p)
  rw [J0r (by omega) (by omega)] at h2
  exact h2
theorem JjW {p : T_api_Page} (hp : J7G p) : ∀ (m j : Nat), j + m = 16 →
    JK (fun s : List UInt8 × Int => J45 p s.1 s.2) (J05 p.LSN 8 ++ J05 p.ID 4 ++ J5c (p.Cells.toList.take j), (j : Int)) = some (Jhi p, 0) := by
  have hd : ∀ c ∈ p.Cells.toList, c.Data.length ≤ 12 := by
    intro c hc
    obtain ⟨i, hi, rfl⟩ := List.getElem_of_mem hc
    have h16 : i < 16 := by simpa using hi
    have := (hp.cells i h16).1
    simpa using this
  have hlen : ∀ j, j ≤ 16 → (J05 p.LSN 8 ++ J05 p.ID 4 ++ J5c (p.Cells.toList.take j)).length = 12 + 13 * j := by
    intro j hj
    have hl : (J5c (p.Cells.toList.take j)).length = 13 * j := by
      rw [Jcr fun c hc => hd c (List.mem_of_mem_take hc)]
      simp; omega
    simp only [List.length_append, J07, hl]
  intro m
  induction m with
  | zero =>
    intro j hj
    obtain rfl : j = 16 := by omega
    refine J33 ?_
    have e1 : ¬ (((16 : Nat) : Nat) : Int) < 16 := by omega
    have e5 : p.Cells.toList.take 16 = p.Cells.toList := List.take_of_length_le (by simp)
    have h0 := hlen 16 (by omega)
    rw [e5] at h0 ⊢
    generalize hx : J05 p.LSN 8 ++ J05 p.ID 4 ++ J5c p.Cells.toList = x at h0
    have a0 : IntKind.wrap .i64 (244 - ((x.length : Nat) : Int)) = 24 := by rw [h0, J0r (by omega) (by omega)]; omega
    have a1 : J2I 24 = some (List.replicate 24 0) := Jgv (n := 24) (by omega) (by omega)
    have a6 : x ++ List.replicate 24 0 = J3p p := by rw [← hx]; rfl
    have a2 : J4a x (List.replicate 24 0) = some (J3p p) := by rw [← a6]; exact JaO (by simp; omega)
    have a3 := JpV (J3p p) (by rw [Jd0 hp]; omega)
    have hc := JnD (J3p p)
    have a7 : IntKind.wrap .i64 ((crc (J3p p) : Nat) : Int) = ((crc (J3p p) : Nat) : Int) := J0r (by omega) (by omega)
    have a4 : J1K (J3p p) ((crc (J3p p) : Nat) : Int) 4 = some (J3p p ++ J05 ((crc (J3p p) : Nat) : Int) 4) := JaU _ _ (k := 4) (by omega) (by omega) (by rw [Jd0 hp]; omega)
    have a5 : J1K (J3p p ++ J05 ((crc (J3p p) : Nat) : Int) 4) p.LSN 8 = some (Jhi p) := JaU _ _ (k := 8) (by omega) (by omega) (by rw [List.length_append, Jd0 hp, J07]; omega)
    simp only [J45, e1, decide_false, Bool.false_eq_true, if_false, J8F, a0, a1, a2, a3, a7, a4, a5, Option.bind_some, Option.map_some]
  | succ m ih =>
    intro j hj
    have hlt : j < 16 := by omega
    have e1 : ((j : Nat) : Int) < 16 := by omega
    have h0 := hlen j (by omega)
    have e3 : p.Cells.toList.take (j + 1) = p.Cells.toList.take j ++ [p.Cells[j]] := by
      rw [List.take_add_one, List.getElem?_eq_getElem (by simpa using hlt)]
      simp
    have hcl := (hp.cells j hlt).1
    have go : ∀ n : Int, n = (if (p.Cells[j]).Set then ((p.Cells[j]).Data.length : Int) else 255) →
        J5r (J05 p.LSN 8 ++ J05 p.ID 4 ++ J5c (p.Cells.toList.take j)) (j : Int) n p = some (.inl (J05 p.LSN 8 ++ J05 p.ID 4 ++ J5c (p.Cells.toList.take (j + 1)), ((j + 1 : Nat) : Int))) := by
      intro n hn
      rw [e3, Jiw, ← List.append_assoc]
      generalize J05 p.LSN 8 ++ J05 p.ID 4 ++ J5c (p.Cells.toList.take j) = x at h0
      have a0 : IntKind.wrap .i64 (12 - (((p.Cells[j]).Data.length : Nat) : Int)) = ((12 - (p.Cells[j]).Data.length : Nat) : Int) := by rw [J0r (by omega) (by omega)]; omega
      have a1 : J2I ((12 - (p.Cells[j]).Data.length : Nat) : Int) = some (List.replicate (12 - (p.Cells[j]).Data.length) 0) := by
        rw [Jgv (by omega) (by omega), Int.toNat_natCast]
      have a2 : J1K x n 1 = some (x ++ J05 n 1) := JaU _ _ (k := 1) (by omega) (by omega) (by omega)
      have a3 : J4a (p.Cells[j]).Data (List.replicate (12 - (p.Cells[j]).Data.length) 0) = some ((p.Cells[j]).Data ++ List.replicate (12 - (p.Cells[j]).Data.length) 0) := JaO (by simp; omega)
      have a4 : J4a (x ++ J05 n 1) ((p.Cells[j]).Data ++ List.replicate (12 - (p.Cells[j]).Data.length) 0) = some (x ++ Jcw p.Cells[j]) := by
        rw [JaO (by simp only [List.length_append, J07, List.length_replicate]; omega)]
        simp only [Jcw, hn, List.append_assoc]
      simp only [J5r, a2, J9R hlt, J49 _ j hlt, a0, a1, a3, a4, Option.bind_some, J8v, J1G (show j < 1000000 by omega)]
    refine (J41 (s' := (J05 p.LSN 8 ++ J05 p.ID 4 ++ J5c (p.Cells.toList.take (j + 1)), ((j + 1 : Nat) : Int))) ?_).trans (ih (j + 1) (by omega))
    simp only [J45, e1, decide_true, if_true, J9R hlt, J49 _ j hlt, Option.bind_some]
    cases hs : (p.Cells[j]).Set with
    | true => simp only [if_true]; exact go _ (by rw [hs]; rfl)
    | false => simp only [Bool.false_eq_true, if_false]; exact go _ (by rw [hs]; rfl)
theorem Js4 (p : T_api_Page) : ∃ e, J61 p = some e ∧ (e = 0 ↔ J7G p) ∧ (e ≠ 0 → J1l p = some ([], e)) := by
  obtain ⟨a, h1, h2⟩ := Jqq p
  obtain ⟨b, h3, h4⟩ := JlL p
  unfold J61
  simp only [Jp5, JrT, h1, h3, Option.bind_some]
  cases a with
  | false =>
    refine ⟨1, rfl, ⟨fun h => (by cases h), fun h => ?_⟩, fun _ => ?_⟩
    · have := h2.2 ⟨h.id0, h.id1, h.lsn0, h.lsn1⟩
      cases this
    · unfold J1l
      simp only [h1, Option.bind_some, Bool.false_eq_true, if_false]
  | true =>
    obtain ⟨i0, i1, l0, l1⟩ := h2.1 rfl
    cases b with
    | false =>
      refine ⟨22, rfl, ⟨fun h => (by cases h), fun h => ?_⟩, fun _ => ?_⟩
      · have := h4.2 h.cells
        cases this
      · unfold J1l
        simp only [h1, h3, Option.bind_some, if_true, Bool.false_eq_true, if_false]
    | true => exact ⟨0, rfl, ⟨fun _ => ⟨i0, i1, l0, l1, h4.1 rfl⟩, fun _ => rfl⟩, fun h => (h rfl).elim⟩
theorem Jfh (p : T_api_Page) : J2P p = J1l p := by
  obtain ⟨e, h1, h2, h3⟩ := Js4 p
  unfold J2P
  simp only [h1, Option.bind_some]
  by_cases he : e = 0
  · have hp := h2.1 he
    have e0 : (e != 0) = false := by simp [he]
    have a1 : J1K [] p.LSN 8 = some (J05 p.LSN 8) := JaU [] _ (k := 8) (by omega) (by omega) (by simp)
    have a2 : J1K (J05 p.LSN 8) p.ID 4 = some (J05 p.LSN 8 ++ J05 p.ID 4) := JaU _ _ (k := 4) (by omega) (by omega) (by rw [J07]; omega)
    simp only [e0, Bool.false_eq_true, if_false, a1, a2, Option.bind_some]
    rw [Jm7 hp]
    have h := JjW hp 16 0 (by omega)
    simp only [List.take_zero, J5c, List.map_nil, List.flatten_nil, List.append_nil] at h
    exact h
  · have e0 : (e != 0) = true := by simpa using he
    simp only [e0, if_true]
    rw [h3 he]
end Go.Am
end
section
namespace Go.Am
set_option maxRecDepth 16000
theorem JjS (p : T_api_Page) : ∃ r, J1l p = some r := by
  obtain ⟨r, h, _⟩ := JjC p
  exact ⟨r, h⟩
theorem JjK {s : List UInt8} {at_ k n : Int} (h : J09 s at_ k = some n) : ∃ e, J0L s at_ k = some (n, e) := by
  unfold J09 at h
  obtain ⟨r, h1, h2⟩ := Option.bind_eq_some_iff.1 h
  injection h2 with h2
  exact ⟨r.2, by rw [h1, ← h2]⟩
theorem Jun (s : List UInt8) (hs : s.length ≤ 1000) {at_ k : Nat} (h1 : 1 ≤ k) (h8 : k ≤ 4) (ha : at_ ≤ 1000) : ∃ (n : Nat) (e : Int), J0L s at_ k = some ((n : Int), e) ∧ n < 2 ^ 32 := by
  have a1 : ¬ (k : Int) < 1 := by omega
  have a2 : ¬ (k : Int) > 8 := by omega
  have a3 : ¬ (at_ : Int) < 0 := by omega
  unfold J0L
  simp only [a1, a2, a3, decide_false, Bool.false_eq_true, if_false]
  by_cases c1 : (at_ : Int) > (s.length : Int)
  · exact ⟨0, 5, by simp only [c1, decide_true, if_true]; rfl, by decide⟩
  · have e0 : IntKind.wrap .i64 ((s.length : Int) - at_) = (s.length : Int) - at_ := J0r (by omega) (by omega)
    by_cases c2 : (s.length : Int) - at_ < k
    · exact ⟨0, 5, by simp only [c1, e0, c2, decide_false, decide_true, Bool.false_eq_true, if_false, if_true]; rfl, by decide⟩
    · simp only [c1, e0, c2, decide_false, Bool.false_eq_true, if_false]
      obtain ⟨r, hr, n, e, rfl, hn⟩ := J1z (f := fun q : Int × Int => J0C s at_ k q.1 q.2) (fun q => ∃ j x : Nat, q.2 = j ∧ q.1 = x ∧ j ≤ k ∧ x < 2 ^ (8 * j)) (fun q => (k - q.2).toNat)
        (fun r => ∃ (n : Nat) (e : Int), r = ((n : Int), e) ∧ n < 2 ^ 32) (fun q ⟨j, x, hj, hx, hjk, hxl⟩ => by
        obtain ⟨x', j'⟩ := q
        simp only at hj hx
        subst hj hx
        by_cases hlt : j < k
        · left
          have e1 : ((j : Nat) : Int) < (k : Int) := by omega
          have e2 : IntKind.wrap .i64 ((at_ : Int) + (j : Int)) = ((at_ + j : Nat) : Int) := by rw [J0r (by omega) (by omega)]; omega
          have e3 : IntKind.wrap .i64 (8 * (j : Int)) = ((8 * j : Nat) : Int) := by rw [J0r (by omega) (by omega)]; omega
          have hlt2 : at_ + j < s.length := by omega
          have hu : (s[at_ + j]).toNat < 256 := UInt8.toNat_lt _
          have e4 : JdY .u64 (IntKind.wrap .u64 (((s[at_ + j]).toNat : Nat) : Int)) ((8 * j : Nat) : Int) = some (IntKind.wrap .u64 ((((s[at_ + j]).toNat : Nat) : Int) * 2 ^ (8 * j))) := by
            rw [JaL (by omega) (by omega)]
            simp only [JdY]
            rw [if_neg (by omega)]
            have : min (((8 * j : Nat) : Int)).toNat IntKind.u64.bits = 8 * j := by
              simp only [Int.toNat_natCast]
              exact Nat.min_eq_left (by show 8 * j ≤ 64; omega)
            rw [this]
          have e5 := JrD (x := x) (b := (s[at_ + j]).toNat) (j := j) (by omega) hxl hu
          refine ⟨(((x + (s[at_ + j]).toNat * 2 ^ (8 * j) : Nat) : Int), ((j + 1 : Nat) : Int)), ?_, ⟨j + 1, x + (s[at_ + j]).toNat * 2 ^ (8 * j), rfl, rfl, by omega, ?_⟩, by show ((k : Int) - ((j + 1 : Nat) : Int)).toNat < ((k : Int) - (j : Int)).toNat; omega⟩
          · simp only [J0C, e1, decide_true, if_true, e2, J95 hlt2, Option.bind_some, e3, e4, e5, J1G (show j < 1000000 by omega)]
          · have : (s[at_ + j]).toNat * 2 ^ (8 * j) + 2 ^ (8 * j) ≤ 256 * 2 ^ (8 * j) := by
              rw [← Nat.succ_mul]; exact Nat.mul_le_mul_right _ hu
            have e6 : 2 ^ (8 * (j + 1)) = 256 * 2 ^ (8 * j) := by rw [Nat.mul_add, Nat.pow_add, Nat.mul_comm]
            omega
        · right
          obtain rfl : j = k := by omega
          have e1 : ¬ ((j : Nat) : Int) < (j : Int) := by omega
          have h32 : (2 : Nat) ^ (8 * j) ≤ 2 ^ 32 := Nat.pow_le_pow_right (by omega) (by omega)
          refine ⟨((x : Int), 0), ?_, x, 0, rfl, by omega⟩
          simp only [J0C, e1, decide_false, Bool.false_eq_true, if_false, J67, Option.map_some]
          rw [J0r (by omega) (by omega)]) (0, 0) ⟨0, 0, rfl, rfl, by omega, by decide⟩
      exact ⟨n, e, hr, hn⟩
theorem bind_none {α β : Type} {o : Option α} {f : α → Option β} (h : Option.bind o f = none) (h2 : ∀ x, o = some x → f x ≠ none) : o = none := by
  cases o with
  | none => rfl
  | some x => exact (h2 x rfl h).elim
theorem Jtx {s : List UInt8} (hs : s.length = 256) (p0 : T_api_Page) (q : Int × T_api_Page) (hq : ∃ j : Nat, q.1 = j ∧ j ≤ 16) {r : T_api_Page × Bool} (h : Jap s p0 q = some r) :
    ∃ r', JaG s p0 q = some r' ∧ (if r.2 = true then J38 s p0 r.1 = some r' else r' = (⟨0, 0, Vector.replicate 16 ⟨false, []⟩⟩, 4)) := by
  refine Jrr (f := fun q : Int × T_api_Page => J1C s p0 q.1 q.2) (g := fun q : Int × T_api_Page => J39 s p0 q.1 q.2) (fun a b => a = b ∧ ∃ j : Nat, a.1 = j ∧ j ≤ 16)
    (fun r r' => if r.2 = true then J38 s p0 r.1 = some r' else r' = (⟨0, 0, Vector.replicate 16 ⟨false, []⟩⟩, 4)) ?_ ?_ ⟨rfl, hq⟩ h
  all_goals
    rintro ⟨j', p⟩ _ r ⟨rfl, j, hj, h16⟩ e
    simp only at hj
    subst hj
  · by_cases hlt : j < 16
    · have e1 : ((j : Nat) : Int) < 16 := by omega
      have e2 : IntKind.wrap .i64 (12 + IntKind.wrap .i64 ((j : Int) * 13)) = ((12 + 13 * j : Nat) : Int) := by
        rw [J0r (n := (j : Int) * 13) (by omega) (by omega), J0r (by omega) (by omega)]; omega
      have hu : (s[12 + 13 * j]'(by omega)).toNat < 256 := UInt8.toNat_lt _
      have e3 : J09 s ((12 + 13 * j : Nat) : Int) 1 = some (((s[12 + 13 * j]'(by omega)).toNat : Nat) : Int) := by
        simp only [J09, Jjb s (by omega) (show 12 + 13 * j < s.length by omega), Option.bind_some]
      have e4 := J95 (l := s) (k := 12 + 13 * j) (by omega)
      generalize hv : (s[12 + 13 * j]'(by omega)).toNat = v at e3 e4 hu
      have e5 : IntKind.wrap .i64 ((v : Nat) : Int) = ((v : Nat) : Int) := J0r (by omega) (by omega)
      have e6 := J1G (show j < 1000000 by omega)
      simp only [J1C, e1, decide_true, if_true, e2, e3, Option.bind_some, e6] at e
      simp only [J39, e1, decide_true, if_true, e2, e4, Option.bind_some, e5, J5w, e6]
      split at e
      · rename_i h255
        injection e with e; injection e with e; subst e
        exact ⟨_, by rw [if_pos h255], rfl, j + 1, rfl, by omega⟩
      · rename_i h255
        rw [if_neg h255]
        split at e
        · cases e
        · rename_i h12
          rw [if_neg h12]
          simp only [Option.bind_eq_some_iff, Option.some.injEq, Sum.inl.injEq] at e
          obtain ⟨m, hm, u, hu1, y, hy, rfl⟩ := e
          exact ⟨_, by simp only [hm, hu1, hy, Option.bind_some], rfl, j + 1, rfl, by omega⟩
    · have e1 : ¬ ((j : Nat) : Int) < 16 := by omega
      simp only [J1C, e1, decide_false, Bool.false_eq_true, if_false, J7m, Option.map_some] at e
      cases e
  · by_cases hlt : j < 16
    · have e1 : ((j : Nat) : Int) < 16 := by omega
      have e2 : IntKind.wrap .i64 (12 + IntKind.wrap .i64 ((j : Int) * 13)) = ((12 + 13 * j : Nat) : Int) := by
        rw [J0r (n := (j : Int) * 13) (by omega) (by omega), J0r (by omega) (by omega)]; omega
      have hu : (s[12 + 13 * j]'(by omega)).toNat < 256 := UInt8.toNat_lt _
      have e3 : J09 s ((12 + 13 * j : Nat) : Int) 1 = some (((s[12 + 13 * j]'(by omega)).toNat : Nat) : Int) := by
        simp only [J09, Jjb s (by omega) (show 12 + 13 * j < s.length by omega), Option.bind_some]
      have e4 := J95 (l := s) (k := 12 + 13 * j) (by omega)
      generalize hv : (s[12 + 13 * j]'(by omega)).toNat = v at e3 e4 hu
      have e5 : IntKind.wrap .i64 ((v : Nat) : Int) = ((v : Nat) : Int) := J0r (by omega) (by omega)
      simp only [J1C, e1, decide_true, if_true, e2, e3, Option.bind_some] at e
      simp only [J39, e1, decide_true, if_true, e2, e4, Option.bind_some, e5, J5w]
      split at e
      · cases e
      · rename_i h255
        rw [if_neg h255]
        split at e
        · rename_i h12
          injection e with e; injection e with e; subst e
          exact ⟨_, by rw [if_pos h12], by simp⟩
        · simp only [Option.bind_eq_some_iff, Option.some.injEq] at e
          obtain ⟨_, _, _, _, _, _, e⟩ := e
          cases e
    · have e1 : ¬ ((j : Nat) : Int) < 16 := by omega
      simp only [J1C, e1, decide_false, Bool.false_eq_true, if_false, J7m, Option.map_some, Option.some.injEq, Sum.inr.injEq] at e
      subst e
      have ht : ∃ r', J38 s p0 p = some r' := by
        unfold J38
        rw [Jfh]
        obtain ⟨x, hx⟩ := JjS p
        rw [hx, Option.bind_some]
        split
        · exact ⟨_, rfl⟩
        · split <;> exact ⟨_, rfl⟩
      obtain ⟨r', hr'⟩ := ht
      exact ⟨r', by simp only [J39, e1, decide_false, Bool.false_eq_true, if_false, hr', Option.map_some], by simpa using hr'⟩
theorem Jqk (s : List UInt8) : J5q s = J1O s := by
  unfold J5q J1O
  by_cases hs : s.length = 256
  · have e0 : (((s.length : Nat) : Int) != 256) = false := by rw [hs]; rfl
    have e3 : J34 s none (some 244) = some (s.take 244) := JgA s (b := 244) (by omega)
    have e1 : J34 s none (some 8) = some (s.take 8) := JgA s (b := 8) (by omega)
    have e2 : J34 s (some 248) none = some (s.drop 248) := JiX s (a := 248) (by omega)
    have g1 : J3h s 244 4 = J0L s 244 4 := Jlk s 244 (k := 4) (by omega) (by omega)
    have g2 : J3h s 0 8 = J0L s 0 8 := Jlk s 0 (k := 8) (by omega) (by omega)
    have g3 : J3h s 8 4 = J0L s 8 4 := Jlk s 8 (k := 4) (by omega) (by omega)
    have c1 := JpV (s.take 244) (by simp; omega)
    have c2 := Joo (s.take 244) (by simp; omega)
    have hc := JnD (s.take 244)
    obtain ⟨n1, x1, k1, l1⟩ := Jun s (by omega) (at_ := 244) (k := 4) (by omega) (by omega) (by omega)
    have k1' : J0L s 244 4 = some ((n1 : Int), x1) := k1
    obtain ⟨n2, k2⟩ := Jb7 s (by omega) (at_ := 0) (k := 8) (by omega) (by omega) (by omega)
    have k2' : J09 s 0 8 = some n2 := k2
    obtain ⟨x2, k2''⟩ := JjK k2'
    obtain ⟨n3, k3⟩ := Jb7 s (by omega) (at_ := 8) (k := 4) (by omega) (by omega) (by omega)
    have k3' : J09 s 8 4 = some n3 := k3
    obtain ⟨x3, k3''⟩ := JjK k3'
    have m1 : J09 s 244 4 = some (n1 : Int) := by simp only [J09, k1', Option.bind_some]
    have w1 : IntKind.wrap .u32 (n1 : Int) = (n1 : Int) := JbB n1 l1
    have w2 : IntKind.wrap .i64 ((crc (s.take 244) : Nat) : Int) = ((crc (s.take 244) : Nat) : Int) := J0r (by omega) (by omega)
    obtain ⟨p, hp⟩ := Jns s hs
    simp only [e0, Bool.false_eq_true, if_false, JlY, Jii, Option.bind_some, e1, e2, e3, g1, g2, g3, c1, c2, k1', k2'', k3'', m1, w1, w2, hp]
    split
    · rfl
    · split
      · split
        · rfl
        · have hp' : Jap s ⟨0, 0, Vector.replicate 16 ⟨false, []⟩⟩ (0, ⟨n3, n2, Vector.replicate 16 ⟨false, []⟩⟩) = some p := by
            have := hp
            unfold J6p at this
            simpa only [k3', k2', Option.bind_some] using this
          obtain ⟨r', hr1, hr2⟩ := Jtx hs _ _ ⟨0, rfl, by omega⟩ hp'
          rw [hr1]
          obtain ⟨x, hx⟩ := JjS p.1
          rw [hx, Option.bind_some]
          by_cases hb : p.2 = true
          · rw [if_pos hb] at hr2 ⊢
            rw [← hr2]
            unfold J38
            rw [Jfh, hx, Option.bind_some]
          · rw [if_neg hb] at hr2 ⊢
            rw [hr2]
      · rfl
  · have e0 : (((s.length : Nat) : Int) != 256) = true := by simp; omega
    simp only [e0, if_true]
theorem JjM (s : List UInt8) : ∃ r, J1O s = some r := by
  by_cases hs : s.length = 256
  · obtain ⟨r, h, _⟩ := JqH s hs
    exact ⟨r, h⟩
  · have e0 : (((s.length : Nat) : Int) != 256) = true := by simp; omega
    unfold J1O
    simp only [e0, if_true]
    exact ⟨_, rfl⟩
theorem JoT {s : List UInt8} {r : T_api_Page × Int} (h : J1O s = some r) (h0 : r.2 ≠ 0) : r.1 = ⟨0, 0, Vector.replicate 16 ⟨false, []⟩⟩ := by
  unfold J1O at h
  split at h
  · injection h with h; subst h; rfl
  · obtain ⟨_, _, h⟩ := Option.bind_eq_some_iff.1 h
    split at h
    · injection h with h; subst h; rfl
    · simp only [Option.bind_eq_some_iff] at h
      obtain ⟨_, _, _, _, h⟩ := h
      split at h
      · simp only [Option.bind_eq_some_iff] at h
        obtain ⟨_, _, _, _, _, _, h⟩ := h
        split at h
        · injection h with h; subst h; rfl
        · simp only [Option.bind_eq_some_iff] at h
          obtain ⟨_, _, _, _, h⟩ := h
          split at h
          · split at h
            · injection h with h; subst h; rfl
            · split at h
              · injection h with h; subst h; exact (h0 rfl).elim
              · injection h with h; subst h; rfl
          · injection h with h; subst h; rfl
      · injection h with h; subst h; rfl
theorem Jo0 (s : List UInt8) (k : Int) : J48 s k = J30 s k := by
  unfold J48 J30 J2F
  obtain ⟨r, hr⟩ := JjM s
  simp only [Jqk, hr, Option.bind_some]
  by_cases h1 : k < 0
  · have h2 : ¬ k ≥ 0 := by omega
    simp only [h1, h2, decide_true, decide_false, if_true, Bool.false_eq_true, if_false, Option.bind_some]
  · have h2 : k ≥ 0 := by omega
    by_cases h3 : k ≥ 64
    · have h4 : ¬ k < 64 := by omega
      simp only [h1, h2, h3, h4, decide_true, decide_false, if_true, Bool.false_eq_true, if_false, Option.bind_some]
    · have h4 : k < 64 := by omega
      simp only [h1, h2, h3, h4, decide_true, decide_false, if_true, Bool.false_eq_true, if_false, Option.bind_some, Juu]
      split
      · rfl
      · by_cases h0 : r.2 = 0
        · have d1 : (r.2 == 0) = true := by simpa using h0
          have d2 : (r.2 != 0) = false := by simp [h0]
          simp only [d1, d2, if_true, Bool.false_eq_true, if_false]
          rw [h0]
        · have d1 : (r.2 == 0) = false := by simpa using h0
          have d2 : (r.2 != 0) = true := by simpa using h0
          simp only [d1, d2, if_true, Bool.false_eq_true, if_false]
          rw [← JoT hr h0]
theorem Jnt (s : List UInt8) (k : Int) : ∃ r, J30 s k = some r := by
  unfold J30 J2F
  obtain ⟨r, hr⟩ := JjM s
  simp only [hr, Option.bind_some]
  by_cases h1 : k ≥ 0
  · simp only [h1, decide_true, if_true, Option.bind_some]
    split
    · split
      · exact ⟨_, rfl⟩
      · split
        · exact ⟨_, rfl⟩
        · split <;> exact ⟨_, rfl⟩
    · exact ⟨_, rfl⟩
  · simp only [h1, decide_false, Bool.false_eq_true, if_false, Option.bind_some]
    exact ⟨_, rfl⟩
end Go.Am
end
section
namespace Go.Am
set_option maxRecDepth 16000
theorem JsY {b : T_pagemenddraw_Codes} (hb : J0m b) {n : Int} (h1 : 1 ≤ n) (h2 : n ≤ 65536) : ∃ r b', Jv b n = some (r, b') ∧ J0m b' ∧ 0 ≤ r ∧ r < n := by
  by_cases hn : n ≤ 256
  · exact J2N hb h1 hn
  · by_cases hc : b.at_ ≥ (b.l_.length : Int)
    · refine ⟨0, b, ?_, hb, by omega, by omega⟩
      show J0X (11 + 1) b n = _
      simp only [J0X, J2T, hc, decide_true, if_true]
    · obtain ⟨ha, hb1, hl, hx⟩ := hb
      obtain ⟨k, hk⟩ : ∃ k : Nat, b.at_ = (k : Int) := ⟨b.at_.toNat, by omega⟩
      have hk2 : k < b.l_.length := by omega
      have hy := hx _ (List.getElem_mem hk2)
      have e1 : ¬ n < 1 := by omega
      have e2 : n > 256 := by omega
      have e3 : idx b.l_ b.at_ = some b.l_[k] := by rw [hk, Jea, List.getElem?_eq_getElem hk2]
      have hb' : J0m ⟨b.l_, b.at_ + 1⟩ := ⟨by show 0 ≤ b.at_ + 1; omega, by show b.at_ + 1 ≤ (b.l_.length : Int); omega, hl, hx⟩
      obtain ⟨r, b2, e4, hb2, hr0, hr1⟩ := JkI hb' (n := 256) (by omega) (by omega) 10
      have e5 : IntKind.wrap .i64 (b.at_ + 1) = b.at_ + 1 := J0r (by omega) (by omega)
      have e6 : IntKind.wrap .i64 (IntKind.wrap .i64 (256 * IntKind.wrap .i64 b.l_[k]) + r) = 256 * b.l_[k] + r := by
        rw [J0r (n := b.l_[k]) (by omega) (by omega), J0r (n := 256 * b.l_[k]) (by omega) (by omega), J0r (by omega) (by omega)]
      have e7 : ¬ n = 0 := by omega
      refine ⟨(256 * b.l_[k] + r).tmod n, b2, ?_, hb2, Int.tmod_nonneg _ (by omega), Int.tmod_lt_of_pos _ (by omega)⟩
      show J0X (11 + 1) b n = _
      have e8 : J0X 11 ⟨b.l_, b.at_ + 1⟩ 256 = some (r, b2) := e4
      rw [show J0X (11 + 1) = J2T (J0X 11) from rfl]
      simp only [J2T, hc, e1, e2, e3, e5, e6, e8, decide_true, decide_false, if_true, Bool.false_eq_true, if_false, Option.bind_some, Jlg, e7]
theorem JuW {l : List Int} (h : List.length l ≤ maxLen ∧ ∀ x ∈ l, 0 ≤ x ∧ x ≤ 255) {n : Nat} (hn : n ≤ 1000) : ∃ b, J6i l (n : Int) = some b ∧ J0m b := Jwf h.2 hn
theorem JkC {α ρ : Type} {f : Int → Option (Int ⊕ ρ)} {l : List α} {out : ρ} (hl : l.length < 1000000) (h1 : ∀ (k : Nat) (h : k < l.length), f (k : Int) = some (.inl ((k + 1 : Nat) : Int))) (h2 : f (l.length : Int) = some (.inr out)) : JK f 0 = some out := by
  obtain ⟨b, hb, rfl⟩ := J1z (f := f) (fun q => ∃ j : Nat, q = j ∧ j ≤ l.length) (fun q => (l.length - q).toNat) (fun b => b = out) (fun q ⟨j, hj, h4⟩ => by
    subst hj
    by_cases hlt : j < l.length
    · left
      exact ⟨((j + 1 : Nat) : Int), h1 j hlt, ⟨j + 1, rfl, by omega⟩, by omega⟩
    · right
      obtain rfl : j = l.length := by omega
      exact ⟨out, h2, rfl⟩) 0 ⟨0, rfl, by omega⟩
  exact hb
theorem JrB {p : T_api_Page} (hp : J7G p) : (Jhi p).length = 256 := by
  simp [Jhi, Jd0 hp, J07]
end Go.Am
end
section
namespace Go.Am
set_option maxRecDepth 16000
structure JdI (r : T_api_Row) : Prop where
  l0 : 0 ≤ r.LSN
  l1 : r.LSN ≤ 1099511627776
  i0 : 0 ≤ r.Image
  i1 : r.Image ≤ 1099511627776
  m0 : 0 ≤ r.ImageLSN
  m1 : r.ImageLSN ≤ 1099511627776
  im : r.Image = 0 → r.ImageLSN = 0
def Jep (l : List T_api_Row) : Prop := ∀ r ∈ l, JdI r
structure Jcs (x : T_api_Index) : Prop where
  n1 : 1 ≤ x.Rows.length
  n2 : x.Rows.length ≤ 64
  rows : Jep x.Rows
theorem Jjp {l : List T_api_Row} {k : Nat} {r : T_api_Row} (h : Jep l) (hr : JdI r) : Jep (l.set k r) := by
  intro q hq
  rcases List.mem_or_eq_of_mem_set hq with h1 | rfl
  · exact h _ h1
  · exact hr
theorem JpX {α : Type} {l : List α} {k : Nat} {v : α} (h : k < l.length) : idx (l.set k v) (k : Int) = some v := by
  rw [Jea, List.getElem?_set_self h]
theorem J86 {α : Type} {l : List α} {k : Nat} (h : k < l.length) : idx l (k : Int) = some l[k] := by
  rw [Jea, List.getElem?_eq_getElem h]
theorem JdP {n : Int} (h0 : 0 ≤ n) (h1 : n ≤ 1099511627776) : J0M n = some true := by
  simp [J0M, h0, h1]
theorem Jsy {r : T_api_Row} (h : JdI r) : J1u r = some false := by
  unfold J1u
  simp only [JdP h.l0 h.l1, JdP h.i0 h.i1, JdP h.m0 h.m1, Option.bind_some, if_true]
  by_cases hi : r.Image = 0
  · simp [hi, h.im hi]
  · simp [hi]
theorem JpD {x : T_api_Index} (h : Jcs x) : J1J x = some true := by
  have n1 := h.n1; have n2 := h.n2
  have e : J02 x.Rows = some (-1) := by
    refine JkC (f := fun s => Jx x.Rows (x.Rows.length : Int) s) (l := x.Rows) (by omega) (fun k hk => ?_) ?_
    · have e1 : ((k : Nat) : Int) < (x.Rows.length : Int) := by omega
      simp only [Jx, e1, decide_true, if_true, J86 hk, Option.bind_some, Jsy (h.rows _ (List.getElem_mem hk)), Bool.false_eq_true, if_false, J1G (show k < 1000000 by omega)]
    · have e1 : ¬ ((x.Rows.length : Nat) : Int) < (x.Rows.length : Int) := by omega
      simp only [Jx, e1, decide_false, Bool.false_eq_true, if_false, J0a, Option.map_some]
  have c1 : ((x.Rows.length : Nat) : Int) ≥ 1 := by omega
  have c2 : ((x.Rows.length : Nat) : Int) ≤ 64 := by omega
  have e3 : decide ((-1 : Int) ≥ 0) = false := rfl
  simp only [J1J, c1, c2, decide_true, if_true, JY, e, Option.bind_some, e3, Bool.not_false]
theorem JlS (n : Nat) : Jep (List.replicate n ⟨0, 0, 0⟩) := by
  intro r hr
  obtain rfl := (List.mem_replicate.1 hr).2
  exact ⟨by simp, by simp, by simp, by simp, by simp, by simp, fun _ => rfl⟩
theorem Jqa {n : Nat} (h : n ≤ 64) : mkS 24 (n : Int) (n : Int) (⟨0, 0, 0⟩ : T_api_Row) = some (List.replicate n ⟨0, 0, 0⟩) := by
  have e : (0 : Int) ≤ (n : Int) ∧ (n : Int) ≤ (n : Int) ∧ ((24 : Nat) : Int) * (n : Int) ≤ 281474976710656 ∧ (n : Int) ≤ 281474976710656 := by omega
  unfold mkS
  rw [if_pos e, Int.toNat_natCast]
theorem JrX {n : Nat} (h1 : 1 ≤ n) (h2 : n ≤ 64) : J3G (n : Int) = some (⟨List.replicate n ⟨0, 0, 0⟩⟩, 0) := by
  have c1 : ¬ (n : Int) < 1 := by omega
  have c2 : ¬ (n : Int) > 64 := by omega
  simp only [J3G, c1, c2, decide_false, Bool.false_eq_true, if_false, Jqa h2, Option.bind_some]
theorem JnR {n : Nat} (h1 : 1 ≤ n) (h2 : n ≤ 64) : J7P (n : Int) = some (⟨List.replicate n ⟨0, 0, 0⟩⟩, 0) := by
  have c1 : ¬ (n : Int) < 1 := by omega
  have c2 : ¬ (n : Int) > 64 := by omega
  simp only [J7P, c1, c2, decide_false, Bool.false_eq_true, if_false, Jqa h2, Option.bind_some]
theorem Jrb {n : Nat} (h1 : 1 ≤ n) (h2 : n ≤ 64) : Jcs ⟨List.replicate n ⟨0, 0, 0⟩⟩ := ⟨by simpa using h1, by simpa using h2, JlS n⟩
theorem Jr5 {b : T_pagemenddraw_Codes} (hb : J0m b) : ∃ x b', J51 b = some (x, b') ∧ J0m b' ∧ Jcs x ∧ x.Rows.length ≤ 5 ∧ (∀ r ∈ x.Rows, r.LSN < 40) := by
  obtain ⟨n, b1, a1, hb1, n0, n1⟩ := J2N hb (n := 5) (by omega) (by omega)
  obtain ⟨k, rfl⟩ : ∃ k : Nat, n = (k : Int) := ⟨n.toNat, by omega⟩
  have e0 : IntKind.wrap .i64 (1 + (k : Int)) = ((k + 1 : Nat) : Int) := by rw [J0r (by omega) (by omega)]; omega
  have e00 : ((0 : Int) == 0) = true := rfl
  have loop := J1z (f := fun s : Int × T_pagemenddraw_Codes × List T_api_Row => J3F (⟨([] : List T_api_Row)⟩ : T_api_Index) s.1 s.2.1 s.2.2)
    (fun s => ∃ j : Nat, s.1 = j ∧ j ≤ k + 1 ∧ J0m s.2.1 ∧ s.2.2.length = k + 1 ∧ Jep s.2.2 ∧ (∀ r ∈ s.2.2, r.LSN < 40)) (fun s => (k + 1 - s.1).toNat)
    (fun o => J0m o.2 ∧ Jcs o.1 ∧ o.1.Rows.length ≤ 5 ∧ (∀ r ∈ o.1.Rows, r.LSN < 40)) (fun s ⟨j, hj, h4, hc, hl, hR, h40⟩ => by
    obtain ⟨q, c, l⟩ := s
    simp only at hj hc hl hR h40
    subst hj
    by_cases hlt : j < k + 1
    · left
      have hlt' : j < l.length := by omega
      have e1 : ((j : Nat) : Int) < ((l.length : Nat) : Int) := by omega
      obtain ⟨r2, c2, a2, hc2, p0, p1⟩ := J2N hc (n := 40) (by omega) (by omega)
      obtain ⟨r3, c3, a3, hc3, _, _⟩ := J2N hc2 (n := 3) (by omega) (by omega)
      have hy := hR _ (List.getElem_mem hlt')
      generalize hg : l[j] = y at hy
      have hq : JdI ⟨r2, y.Image, y.ImageLSN⟩ := ⟨p0, by show r2 ≤ _; omega, hy.i0, hy.i1, hy.m0, hy.m1, hy.im⟩
      by_cases h0 : r3 = 0
      · have d : (r3 == 0) = true := by simpa using h0
        obtain ⟨r4, c4, a4, hc4, q0, q1⟩ := J2N hc3 (n := 4) (by omega) (by omega)
        obtain ⟨r5, c5, a5, hc5, t0, t1⟩ := J2N hc4 (n := 40) (by omega) (by omega)
        have e2 : IntKind.wrap .i64 (1 + r4) = 1 + r4 := J0r (by omega) (by omega)
        refine ⟨(((j + 1 : Nat) : Int), c5, l.set j ⟨r2, 1 + r4, r5⟩), ?_, ⟨j + 1, rfl, by omega, hc5, by simpa using hl, Jjp hR ⟨p0, by show r2 ≤ _; omega, by show 0 ≤ 1 + r4; omega, by show 1 + r4 ≤ _; omega, t0, by show r5 ≤ _; omega, fun h => by have h' : 1 + r4 = 0 := h; omega⟩, fun r hr => ?_⟩, by simp; omega⟩
        · simp only [J3F, e1, decide_true, if_true, a2, a3, a4, a5, Option.bind_some, J86 hlt', hg, d, Int.toNat_natCast, JpX hlt', JpX (l := l.set j _) (show j < _ by simpa using hlt'), List.set_set, e2, J5L, J1G (show j < 1000000 by omega)]
        · rcases List.mem_or_eq_of_mem_set hr with h1 | rfl
          · exact h40 _ h1
          · exact p1
      · have d : (r3 == 0) = false := by simpa using h0
        refine ⟨(((j + 1 : Nat) : Int), c3, l.set j ⟨r2, y.Image, y.ImageLSN⟩), ?_, ⟨j + 1, rfl, by omega, hc3, by simpa using hl, Jjp hR hq, fun r hr => ?_⟩, by simp; omega⟩
        · simp only [J3F, e1, decide_true, if_true, a2, a3, Option.bind_some, J86 hlt', hg, d, Bool.false_eq_true, if_false, Int.toNat_natCast, J5L, J1G (show j < 1000000 by omega)]
        · rcases List.mem_or_eq_of_mem_set hr with h1 | rfl
          · exact h40 _ h1
          · exact p1
    · right
      have e1 : ¬ ((j : Nat) : Int) < ((l.length : Nat) : Int) := by omega
      exact ⟨(⟨l⟩, c), by simp only [J3F, e1, decide_false, Bool.false_eq_true, if_false, J9l, Option.map_some], hc, ⟨by show 1 ≤ l.length; omega, by show l.length ≤ 64; omega, hR⟩, by show l.length ≤ 5; omega, h40⟩)
    (0, b1, List.replicate (k + 1) ⟨0, 0, 0⟩) ⟨0, rfl, by omega, hb1, by simp, JlS _, fun r hr => by
      obtain rfl := (List.mem_replicate.1 hr).2
      decide⟩
  obtain ⟨⟨x, b'⟩, hr, h1, h2, h3, h5⟩ := loop
  refine ⟨x, b', ?_, h1, h2, h3, h5⟩
  unfold J51
  simp only [a1, Option.bind_some, e0, JnR (n := k + 1) (by omega) (by omega), e00, if_true]
  exact hr
theorem get_at {s pre post : List UInt8} {n at_ : Int} {k : Nat} (hs : s = pre ++ (J05 n k ++ post)) (ha : at_ = (pre.length : Int)) (h1 : 1 ≤ k) (h8 : k ≤ 8) (h0 : 0 ≤ n) (hn : n.toNat < 2 ^ (8 * k)) (hn2 : n < 2 ^ 63) (hl : s.length ≤ 1000) :
    J0L s at_ (k : Int) = some (n, 0) := by
  obtain ⟨m, rfl⟩ : ∃ m : Nat, n = (m : Int) := ⟨n.toNat, by omega⟩
  subst hs ha
  exact Jvs pre post h1 h8 (by simpa using hn) (by omega) hl
end Go.Am
end
section
namespace Go.Am
set_option maxRecDepth 16000
theorem Jqz {l : List T_api_Row} (h : l.length ≤ 1000) : J1V l = some l := by
  have e : (2 * l.length + 512) * 24 ≤ 281474976710656 := by omega
  unfold J1V
  rw [if_pos e]
def Jcv (n ref : Int) (k : Nat) : Jg := ⟨n, 7, 0, 0, 0, ref, ⟨(k : Int), 0, ⟨false, []⟩, ⟨false, []⟩⟩, []⟩
theorem Jpr {n ref : Int} {k : Nat} (h1 : 1 ≤ n) (h2 : n ≤ 1099511627776) (r0 : 0 ≤ ref) (r1 : ref < n) (hk : k < 64) : J65 (Jcv n ref k) = some true := by
  have c1 : ¬ n < 1 := by omega
  have c2 : ¬ n > 1099511627776 := by omega
  have c3 : (0 : Int) < n := by omega
  have c4 : (k : Int) ≥ 0 := by omega
  have c5 : (k : Int) < 64 := by omega
  have c6 : ref ≥ 0 := r0
  simp [J65, Jcv, c1, c2, J4e, c3, r0, r1, J7u, J7Z, J84, J7W, J2v, J5v, c5]
def Jdy (ref : Int) (r : T_api_Row) : T_api_Row := ⟨Jlw r.LSN ref, r.Image, r.ImageLSN⟩
theorem JpR {α : Type} {l : List α} {k : Nat} (h : k < l.length) (f : α → α) : l.set k (f l[k]) = l.modify k f := by
  apply List.ext_getElem?
  intro j
  rw [List.getElem?_modify]
  by_cases hj : k = j
  · subst hj
    rw [List.getElem?_set_self h, List.getElem?_eq_getElem h]; simp
  · rw [List.getElem?_set_ne hj]; simp [hj]
theorem JtM {r : T_api_Row} {ref : Int} (h : JdI r) (r0 : 0 ≤ ref) (r1 : ref ≤ 1099511627776) : JdI (Jdy ref r) := by
  have e : 0 ≤ Jlw r.LSN ref ∧ Jlw r.LSN ref ≤ 1099511627776 := by
    have := h.l0; have := h.l1
    unfold Jlw
    split <;> omega
  exact ⟨e.1, e.2, h.i0, h.i1, h.m0, h.m1, h.im⟩
theorem Jw8 {x : T_api_Index} (h : Jcs x) {k : Nat} (hk : k < x.Rows.length) {f : T_api_Row → T_api_Row} (hf : ∀ r, JdI r → JdI (f r)) : Jcs ⟨x.Rows.modify k f⟩ := by
  refine ⟨by simpa using h.n1, by simpa using h.n2, ?_⟩
  show Jep (x.Rows.modify k f)
  rw [← JpR hk]
  exact Jjp h.rows (hf _ (h.rows _ (List.getElem_mem hk)))
theorem Jt2 {x : T_api_Index} {k : Nat} (hk : k < x.Rows.length) : J1I x (k : Int) = some true := by
  have c1 : (k : Int) ≥ 0 := by omega
  have c2 : (k : Int) < ((x.Rows.length : Nat) : Int) := by omega
  simp only [J1I, c1, c2, decide_true, if_true]
theorem Jq7 {x : T_api_Index} (h : Jcs x) {n ref : Int} {k : Nat} (h1 : 1 ≤ n) (h2 : n ≤ 1099511627776) (r0 : 0 ≤ ref) (r1 : ref < n) (hk : k < x.Rows.length) :
    J23 x (Jcv n ref k) = some (⟨x.Rows.modify k (Jdy ref)⟩, 0) := by
  have h64 := h.n2
  have a1 := Jpr h1 h2 r0 r1 (k := k) (by omega)
  have a2 : J1I x (Jcv n ref k).Change.Page = some true := Jt2 hk
  have a3 : J0q x (Jcv n ref k).Change.Page (Jcv n ref k) = some ⟨x.Rows.modify k (Jdy ref)⟩ := by
    show J0q x (k : Int) (Jcv n ref k) = _
    have e : J5b x.Rows[k] (Jcv n ref k) = some (Jdy ref x.Rows[k]) := rfl
    simp only [J0q, Jqz (show x.Rows.length ≤ 1000 by omega), Option.bind_some, J86 hk, e, Int.toNat_natCast, JpR hk]
  have d : ((Jcv n ref k).Kind != 7) = false := rfl
  simp only [J23, JpD h, a1, d, a2, a3, Option.bind_some, if_true, Bool.false_eq_true, if_false]
theorem JoW : J5Y = some true := by
  have z := Jrb (n := 2) (by omega) (by omega)
  have a1 : J3G 2 = some (⟨List.replicate 2 ⟨0, 0, 0⟩⟩, 0) := JrX (n := 2) (by omega) (by omega)
  have a2 := Jq7 z (n := 9) (ref := 5) (k := 1) (by omega) (by omega) (by omega) (by omega) (by simp)
  have z2 := Jw8 z (k := 1) (by simp) (f := Jdy 5) (fun r hr => JtM hr (by omega) (by omega))
  have a3 := Jq7 z2 (n := 10) (ref := 3) (k := 1) (by omega) (by omega) (by omega) (by omega) (by simp)
  have e : (List.modify (List.modify (List.replicate 2 (⟨0, 0, 0⟩ : T_api_Row)) 1 (Jdy 5)) 1 (Jdy 3)) = [⟨0, 0, 0⟩, ⟨5, 0, 0⟩] := by decide +kernel
  rw [e] at a3
  have d0 : ((0 : Int) == 0) = true := rfl
  have d1 : ((([(⟨0, 0, 0⟩ : T_api_Row), ⟨5, 0, 0⟩].length : Nat) : Int) == 2) = true := rfl
  have d2 : idx [(⟨0, 0, 0⟩ : T_api_Row), ⟨5, 0, 0⟩] 1 = some ⟨5, 0, 0⟩ := rfl
  unfold J5Y
  simp only [a1, Option.bind_some]
  have a2' : J23 (⟨List.replicate 2 ⟨0, 0, 0⟩⟩ : T_api_Index) (⟨9, 7, 0, 0, 0, 5, (⟨1, 0, (⟨false, ([] : List UInt8)⟩ : J8), (⟨false, ([] : List UInt8)⟩ : J8)⟩ : Js), ([] : List UInt8)⟩ : Jg) = _ := a2
  rw [a2']
  simp only [Option.bind_some]
  have a3' : J23 (⟨(List.replicate 2 (⟨0, 0, 0⟩ : T_api_Row)).modify 1 (Jdy 5)⟩ : T_api_Index) (⟨10, 7, 0, 0, 0, 3, (⟨1, 0, (⟨false, ([] : List UInt8)⟩ : J8), (⟨false, ([] : List UInt8)⟩ : J8)⟩ : Js), ([] : List UInt8)⟩ : Jg) = _ := a3
  rw [a3']
  simp only [Option.bind_some, d0, if_true, d1, d2]
  rfl
end Go.Am
end
section
namespace Go.Am
set_option maxRecDepth 16000
theorem JlX {α ρ : Type} {f : Int → Option (Int ⊕ ρ)} {l : List α} (p : α → Bool) (hit : Nat → ρ) (out : ρ) (hl : l.length < 1000000)
    (h1 : ∀ (k : Nat) (h : k < l.length), f (k : Int) = some (if p l[k] = true then .inr (hit k) else .inl ((k + 1 : Nat) : Int))) (h2 : f (l.length : Int) = some (.inr out)) :
    JK f 0 = some (match l.findIdx? p with
      | some k => hit k
      | none => out) := by
  have key : ∀ (n k : Nat), k + n = l.length → JK f (k : Int) = some (match (l.drop k).findIdx? p with
      | some j => hit (k + j)
      | none => out) := by
    intro n
    induction n with
    | zero =>
      intro k hk
      obtain rfl : k = l.length := by omega
      rw [J33 h2]
      simp
    | succ n ih =>
      intro k hk
      have hlt : k < l.length := by omega
      have e := h1 k hlt
      rw [List.drop_eq_getElem_cons hlt, List.findIdx?_cons]
      by_cases hp : p l[k] = true
      · rw [if_pos hp] at e
        rw [J33 e, if_pos hp]
        rfl
      · rw [if_neg hp] at e
        rw [J41 e, ih (k + 1) (by omega), if_neg hp]
        cases (l.drop (k + 1)).findIdx? p with
        | none => rfl
        | some j => simp only [Option.map_some]; congr 2; omega
  have := key l.length 0 (by omega)
  simpa using this
theorem Jsp {α ρ : Type} {f : Int → Option (Int ⊕ ρ)} {l : List α} (q : α → Bool) (bad out : ρ) (hl : l.length < 1000000)
    (h1 : ∀ (k : Nat) (h : k < l.length), f (k : Int) = some (if q l[k] = true then .inl ((k + 1 : Nat) : Int) else .inr bad)) (h2 : f (l.length : Int) = some (.inr out)) :
    JK f 0 = some (if l.all q = true then out else bad) := by
  have := JlX (f := f) (l := l) (fun x => !q x) (fun _ => bad) out hl (fun k h => by
    rw [h1 k h]
    cases q l[k] <;> rfl) h2
  rw [this]
  cases h : l.findIdx? (fun x => !q x) with
  | none =>
    rw [List.findIdx?_eq_none_iff] at h
    have : l.all q = true := List.all_eq_true.2 fun x hx => by simpa using h x hx
    rw [this]; rfl
  | some k =>
    obtain ⟨hk, h3, _⟩ := List.findIdx?_eq_some_iff_getElem.1 h
    have : l.all q ≠ true := fun h4 => by
      have := List.all_eq_true.1 h4 _ (List.getElem_mem hk)
      rw [this] at h3; cases h3
    rw [if_neg this]
theorem Jtl {ρ : Type} (c : Bool) (a b : ρ) : (if c = true then some a else some b) = some (if c = true then a else b) := by cases c <;> rfl
end Go.Am
end
section
namespace Go.Am
set_option maxRecDepth 16000
def Tot {ρ : Type} (o : Option ρ) (Q : ρ → Prop) : Prop := ∃ r, o = some r ∧ Q r
theorem Tot.bind {α ρ : Type} {o : Option α} {f : α → Option ρ} {Q : α → Prop} {R : ρ → Prop} (h : Tot o Q) (h2 : ∀ r, Q r → Tot (f r) R) : Tot (o.bind f) R := by
  obtain ⟨r, rfl, hq⟩ := h
  exact h2 r hq
theorem Tot.some {ρ : Type} {r : ρ} {Q : ρ → Prop} (h : Q r) : Tot (some r) Q := ⟨r, rfl, h⟩
theorem Tot.eq {α ρ : Type} {o : Option α} {f : α → Option ρ} {v : α} {R : ρ → Prop} (h : o = Option.some v) (h2 : Tot (f v) R) : Tot (o.bind f) R := by
  subst h; exact h2
theorem Tot.ite {ρ : Type} {c : Bool} {a b : Option ρ} {Q : ρ → Prop} (h1 : c = true → Tot a Q) (h2 : c = false → Tot b Q) : Tot (if c = true then a else b) Q := by
  cases c with
  | true => exact h1 rfl
  | false => exact h2 rfl
theorem Tot.both {ρ : Type} {c : Bool} {a b : Option ρ} {Q : ρ → Prop} (h1 : Tot a Q) (h2 : Tot b Q) : Tot (if c = true then a else b) Q := .ite (fun _ => h1) fun _ => h2
theorem Tot.mono {ρ : Type} {o : Option ρ} {Q R : ρ → Prop} (h : Tot o Q) (h2 : ∀ r, Q r → R r) : Tot o R := by
  obtain ⟨r, e, hq⟩ := h
  exact ⟨r, e, h2 r hq⟩
theorem Tot.map {α ρ : Type} {o : Option α} {f : α → ρ} {Q : α → Prop} {R : ρ → Prop} (h : Tot o Q) (h2 : ∀ r, Q r → R (f r)) : Tot (Option.map f o) R := by
  obtain ⟨r, rfl, hq⟩ := h
  exact ⟨f r, rfl, h2 r hq⟩
abbrev Drw {α : Type} (o : Option (α × T_pagemenddraw_Codes)) (Q : α → Prop) : Prop := Tot o fun r => J0m r.2 ∧ Q r.1
theorem JuD {α : Type} {o : Option (α × T_pagemenddraw_Codes)} (h : ∃ x b', o = some (x, b') ∧ J0m b') : Drw o fun _ => True := by
  obtain ⟨x, b', rfl, h1⟩ := h
  exact ⟨_, rfl, h1, trivial⟩
section
variable {b : T_pagemenddraw_Codes} (hb : J0m b)
include hb
theorem Jal {n : Int} (h1 : 1 ≤ n) (h2 : n ≤ 256) : Drw (Jv b n) fun r => 0 ≤ r ∧ r < n := by
  obtain ⟨r, b', e, h3, h4, h5⟩ := J2N hb h1 h2
  exact ⟨_, e, h3, h4, h5⟩
theorem Jqe {n : Int} (h1 : 1 ≤ n) (h2 : n ≤ 65536) : Drw (Jv b n) fun r => 0 ≤ r ∧ r < n := by
  obtain ⟨r, b', e, h3, h4, h5⟩ := JsY hb h1 h2
  exact ⟨_, e, h3, h4, h5⟩
theorem Jr0 : Drw (J2x b) fun _ => True := JuD (Jso hb)
theorem Jt1 {s : List UInt8} (hs : s.length ≤ 60000) : Drw (J3I b s) fun t => t.length ≤ s.length + 1 := by
  unfold J3I
  by_cases h0 : s.length = 0
  · have d1 : (((s.length : Nat) : Int) == 0) = true := by rw [h0]; rfl
    rw [d1, if_pos rfl]
    exact .bind (Jal hb (by omega) (by omega)) fun r ⟨h, _⟩ => .some ⟨h, by simp [toStr]⟩
  · have d1 : (((s.length : Nat) : Int) == 0) = false := by simpa using h0
    rw [d1, if_neg (by decide)]
    refine .bind (Jqe hb (by omega) (by omega)) fun r1 ⟨h1, q1⟩ => ?_
    obtain ⟨r, b1⟩ := r1
    simp only at h1 q1 ⊢
    obtain ⟨k, rfl⟩ : ∃ k : Nat, r = (k : Int) := ⟨r.toNat, by omega⟩
    have hk : k < s.length := by omega
    have f1 := JgA s (b := k) (by omega)
    have f2 : J34 s (some (IntKind.wrap .i64 ((k : Int) + 1))) none = some (s.drop (k + 1)) := by
      rw [J1G (by omega)]; exact JiX s (a := k + 1) (by omega)
    have f3 : J4a (s.take k) (s.drop (k + 1)) = some (s.take k ++ s.drop (k + 1)) := JaO (by simp only [List.length_take, List.length_drop]; omega)
    have f4 : ∀ v : Int, J4a s (toStr [v]) = some (s ++ toStr [v]) := fun v => JaO (by simp [toStr]; omega)
    have f5 : ∀ v : Int, J4a (s.take k) (toStr [v]) = some (s.take k ++ toStr [v]) := fun v => JaO (by simp [toStr]; omega)
    have f6 : ∀ v : Int, J4a (s.take k ++ toStr [v]) (s.drop (k + 1)) = some (s.take k ++ toStr [v] ++ s.drop (k + 1)) := fun v => JaO (by simp [toStr]; omega)
    simp only [f1, f2, f3, f4, f5, f6, J95 hk, Option.bind_some]
    refine .bind (Jal h1 (by omega) (by omega)) fun r2 ⟨h2, q2⟩ => .both ?_ (.both ?_ ?_)
    · exact .some ⟨h2, by simp; omega⟩
    · exact .bind (Jal h2 (by omega) (by omega)) fun r3 ⟨h3, _⟩ => .some ⟨h3, by simp [toStr]⟩
    · exact .bind (Jal h2 (by omega) (by omega)) fun r3 ⟨h3, _⟩ => .some ⟨h3, by simp [toStr]; omega⟩
end
end Go.Am
end
section
namespace Go.Am
set_option maxRecDepth 16000
def JbZ (n : Int) : Bool := decide (0 ≤ n) && decide (n ≤ 1099511627776)
def Je5 (r : T_api_Row) : Bool := JbZ r.LSN && (JbZ r.Image && (JbZ r.ImageLSN && !(r.Image == 0 && r.ImageLSN != 0)))
def Jou (x : T_api_Index) : Bool := decide (1 ≤ x.Rows.length) && (decide (x.Rows.length ≤ 64) && x.Rows.all Je5)
theorem JrI (n : Int) : J0M n = some (JbZ n) := by
  unfold J0M JbZ
  by_cases h : 0 ≤ n
  · have h' : n ≥ 0 := h
    simp only [h, h', decide_true, if_true, Bool.true_and]
  · have h' : ¬ n ≥ 0 := h
    simp only [h, h', decide_false, Bool.false_eq_true, if_false, Bool.false_and]
theorem Jva (n : Int) : J6s n = some (JbZ n) := JrI n
theorem JvN (r : T_api_Row) : J1u r = some (!Je5 r) := by
  unfold J1u Je5
  simp only [JrI, Option.bind_some]
  cases JbZ r.LSN <;> cases JbZ r.Image <;> cases JbZ r.ImageLSN <;> cases (r.Image == 0) <;> cases (r.ImageLSN != 0) <;> rfl
theorem JuF (x : T_api_Index) : J1J x = some (Jou x) := by
  unfold J1J Jou
  by_cases h1 : 1 ≤ x.Rows.length
  · have c1 : ((x.Rows.length : Nat) : Int) ≥ 1 := by omega
    by_cases h2 : x.Rows.length ≤ 64
    · have c2 : ((x.Rows.length : Nat) : Int) ≤ 64 := by omega
      have e : J02 x.Rows = _ := JlX (f := fun s => Jx x.Rows (x.Rows.length : Int) s) (l := x.Rows) (fun r => !Je5 r) (fun k => (k : Int)) (-1) (by omega)
        (fun k hk => by
          have e1 : ((k : Nat) : Int) < (x.Rows.length : Int) := by omega
          simp only [Jx, e1, decide_true, if_true, J86 hk, Option.bind_some, JvN, Jtl, J1G (show k < 1000000 by omega)])
        (by
          have e1 : ¬ ((x.Rows.length : Nat) : Int) < (x.Rows.length : Int) := by omega
          simp only [Jx, e1, decide_false, Bool.false_eq_true, if_false, J0a, Option.map_some])
      simp only [c1, c2, h1, h2, decide_true, if_true, JY, e, Option.bind_some, Bool.true_and]
      congr 1
      cases h : x.Rows.findIdx? (fun r => !Je5 r) with
      | none =>
        rw [List.findIdx?_eq_none_iff] at h
        have : x.Rows.all Je5 = true := List.all_eq_true.2 fun r hr => by simpa using h r hr
        rw [this]; rfl
      | some k =>
        obtain ⟨hk, h3, _⟩ := List.findIdx?_eq_some_iff_getElem.1 h
        have : x.Rows.all Je5 = false := by
          rw [List.all_eq_false]
          exact ⟨_, List.getElem_mem hk, by simpa using h3⟩
        rw [this]
        have : ((k : Nat) : Int) ≥ 0 := by omega
        simp only [this, decide_true, Bool.not_true]
    · have c2 : ¬ ((x.Rows.length : Nat) : Int) ≤ 64 := by omega
      simp only [c1, c2, h1, h2, decide_true, decide_false, if_true, Bool.false_eq_true, if_false, Bool.true_and, Bool.false_and]
  · have c1 : ¬ ((x.Rows.length : Nat) : Int) ≥ 1 := by omega
    simp only [c1, h1, decide_false, Bool.false_eq_true, if_false, Bool.false_and]
theorem JtX (x : T_api_Index) : J68 x = some (Jou x) := by
  unfold J68 Jou
  by_cases h1 : 1 ≤ x.Rows.length
  · have c1 : ¬ ((x.Rows.length : Nat) : Int) < 1 := by omega
    by_cases h2 : x.Rows.length ≤ 64
    · have c2 : ¬ ((x.Rows.length : Nat) : Int) > 64 := by omega
      have e : Jbf x 0 = _ := Jsp (f := fun s => J4E x s) (l := x.Rows) Je5 false true (by omega)
        (fun k hk => by
          have e1 : ((k : Nat) : Int) < (x.Rows.length : Int) := by omega
          simp only [J4E, e1, decide_true, if_true, J86 hk, Option.bind_some, Jva, J1G (show k < 1000000 by omega)]
          generalize x.Rows[k] = r
          unfold Je5
          cases JbZ r.LSN <;> cases JbZ r.Image <;> cases JbZ r.ImageLSN <;> cases (r.Image == 0) <;> cases (r.ImageLSN != 0) <;> rfl)
        (by
          have e1 : ¬ ((x.Rows.length : Nat) : Int) < (x.Rows.length : Int) := by omega
          simp only [J4E, e1, decide_false, Bool.false_eq_true, if_false, J9m, Option.map_some])
      simp only [c1, c2, h1, h2, decide_true, decide_false, Bool.false_eq_true, if_false, e, Bool.true_and]
      cases x.Rows.all Je5 <;> rfl
    · have c2 : ((x.Rows.length : Nat) : Int) > 64 := by omega
      simp only [c1, c2, h1, h2, decide_true, decide_false, if_true, Bool.false_eq_true, if_false, Bool.true_and, Bool.false_and]
  · have c1 : ((x.Rows.length : Nat) : Int) < 1 := by omega
    simp only [c1, h1, decide_true, decide_false, if_true, Bool.false_and]
end Go.Am
end
section
namespace Go.Am
set_option maxRecDepth 16000
set_option maxHeartbeats 1000000
section
end
end Go.Am
end
section
namespace Go.Am
set_option maxRecDepth 16000
set_option maxHeartbeats 2000000
theorem Jtq {l : List T_api_Row} (h : l.length ≤ 1000) : Jov 24 l = some l := by
  have e : J6Y l.length 24 = true := by
    simp only [J6Y]
    simp; omega
  unfold Jov
  rw [if_pos e]
end Go.Am
end
section
namespace Go.Am
set_option maxRecDepth 16000
set_option maxHeartbeats 2000000
theorem JuO {b : T_pagemenddraw_Codes} (hb : J0m b) : Drw (J51 b) fun x => Jcs x ∧ x.Rows.length ≤ 5 := by
  obtain ⟨x, b', e, h1, h2, h3, _⟩ := Jr5 hb
  exact ⟨_, e, h1, h2, h3⟩
theorem JsM {b : T_pagemenddraw_Codes} (hb : J0m b) {x : T_api_Index} (hx : Jcs x) (h5 : x.Rows.length ≤ 5) : Drw (J7V b x) fun y => y.Rows.length ≤ 100 := by
  have n1 := hx.n1
  unfold J7V
  refine .eq (Jtq (by omega)) (.bind (Jqe hb (by omega) (by omega)) fun r1 ⟨h1, q1⟩ => ?_)
  obtain ⟨r, b1⟩ := r1
  simp only at h1 q1 ⊢
  obtain ⟨k, rfl⟩ : ∃ k : Nat, r = (k : Int) := ⟨r.toNat, by omega⟩
  refine .eq (J86 (show k < x.Rows.length by omega)) (.bind (Jal h1 (by omega) (by omega)) fun r2 ⟨h2, q2⟩ => .both ?_ (.both ?_ (.both ?_ (.both ?_ ?_))))
  · exact .bind (Jr0 h2) fun r3 ⟨h3, _⟩ => .eq rfl (.some ⟨h3, by simp; omega⟩)
  · exact .bind (Jr0 h2) fun r3 ⟨h3, _⟩ => .eq rfl (.some ⟨h3, by simp; omega⟩)
  · exact .bind (Jr0 h2) fun r3 ⟨h3, _⟩ => .eq rfl (.some ⟨h3, by simp; omega⟩)
  · refine .bind (Jal h2 (by omega) (by omega)) fun r3 ⟨h3, q3⟩ => ?_
    obtain ⟨m, hm⟩ : ∃ m : Nat, r3.1 = (m : Int) := ⟨r3.1.toNat, by omega⟩
    have w : IntKind.wrap .i64 (60 + r3.1) = ((60 + m : Nat) : Int) := by rw [J0r (by omega) (by omega)]; omega
    have e : (0 : Int) ≤ ((60 + m : Nat) : Int) ∧ ((60 + m : Nat) : Int) ≤ ((60 + m : Nat) : Int) ∧ ((24 : Nat) : Int) * ((60 + m : Nat) : Int) ≤ 281474976710656 ∧ ((60 + m : Nat) : Int) ≤ 281474976710656 := by omega
    have em : mkS 24 ((60 + m : Nat) : Int) ((60 + m : Nat) : Int) (⟨0, 0, 0⟩ : T_api_Row) = some (List.replicate (60 + m) ⟨0, 0, 0⟩) := by
      unfold mkS
      rw [if_pos e, Int.toNat_natCast]
    rw [w]
    have er : J6Y (x.Rows.length + (List.replicate (60 + m) (⟨0, 0, 0⟩ : T_api_Row)).length) 24 = true := by
      simp only [J6Y, List.length_replicate]
      simp; omega
    refine .eq em (.eq (if_pos er) (.some ⟨h3, ?_⟩))
    simp; omega
  · exact .some ⟨h2, by show x.Rows.length ≤ 100; omega⟩
theorem JoS {α ρ : Type} {f : Int → Option (Int ⊕ ρ)} {l : List α} {Q : ρ → Prop} (hl : l.length < 1000000) (h1 : ∀ (k : Nat) (h : k < l.length), f (k : Int) = some (.inl ((k + 1 : Nat) : Int)))
    (h2 : Tot (f (l.length : Int)) fun r => ∃ o, r = .inr o ∧ Q o) : Tot (JK f 0) Q := by
  obtain ⟨r, e, o, rfl, hq⟩ := h2
  exact ⟨o, JkC hl h1 e, hq⟩
section
end
end Go.Am
end
section
namespace Go.Am
set_option maxRecDepth 16000
set_option maxHeartbeats 2000000
theorem JsD (x : T_api_Index) (id head : Int) (s : List UInt8) : ∃ r, J3x x id head s = some r ∧ J5W x id head s = some r := by
  unfold J3x J5W
  simp only [JuF, JtX, Option.bind_some, J1I]
  cases Jou x
  · exact ⟨_, rfl, rfl⟩
  simp only [if_true]
  by_cases c1 : id < 0
  · have c1' : ¬ id ≥ 0 := by omega
    simp only [c1, c1', decide_true, decide_false, if_true, if_false, Bool.false_eq_true, Option.bind_some]
    exact ⟨_, rfl, rfl⟩
  have c1' : id ≥ 0 := by omega
  by_cases c2 : id < ((x.Rows.length : Nat) : Int)
  · have c2' : ¬ id ≥ ((x.Rows.length : Nat) : Int) := by omega
    simp only [c1, c1', c2, c2', decide_true, decide_false, if_true, if_false, Bool.false_eq_true, Option.bind_some]
    by_cases c3 : head < 0
    · simp only [c3, decide_true, if_true]
      exact ⟨_, rfl, rfl⟩
    simp only [c3, decide_false, if_false, Bool.false_eq_true]
    obtain ⟨r, e⟩ := Jnt s id
    obtain ⟨k, rfl⟩ : ∃ k : Nat, id = (k : Int) := ⟨id.toNat, by omega⟩
    rw [Jo0, e]
    have hk : k < x.Rows.length := by omega
    simp only [Option.bind_some, J86 hk]
    by_cases c4 : (r.2 != 0) = true
    · simp only [c4, if_true]
      exact ⟨_, rfl, rfl⟩
    simp only [c4, if_false, Bool.false_eq_true]
    by_cases c5 : r.1.LSN > head <;> by_cases c6 : r.1.LSN > x.Rows[k].LSN <;> by_cases c7 : r.1.LSN < x.Rows[k].LSN <;>
      simp only [c5, c6, c7, decide_true, decide_false, if_true, if_false, Bool.false_eq_true] <;> exact ⟨_, rfl, rfl⟩
  · have c2' : id ≥ ((x.Rows.length : Nat) : Int) := by omega
    simp only [c1, c1', c2, c2', decide_true, decide_false, if_true, if_false, Bool.false_eq_true, Option.bind_some]
    exact ⟨_, rfl, rfl⟩
theorem Jwd {b : T_pagemenddraw_Codes} (hb : J0m b) {id : Int} (h0 : 0 ≤ id) (h1 : id < 64) : Drw (J2Q b id) fun p => J7G p ∧ p.ID = id := by
  obtain ⟨p, b', e, h2, h3, h4⟩ := Jrx hb h0 h1
  exact ⟨_, e, h2, h3, h4⟩
abbrev Jua {ρ : Type} (k : Int) (o : Option ((Int × T_pagemenddraw_Codes) ⊕ ρ)) : Prop := Tot o fun r => ∃ b, r = .inl (IntKind.wrap .i64 (k + 1), b) ∧ J0m b
section
variable (x2 x3 : Int) (x4 x14 : List UInt8) (x66 : List T_api_Index) (x67 x68 : Int) (x78 : List (List UInt8)) (x79 x80 : Int) (b3 : T_api_Page) {b1 : T_pagemenddraw_Codes} (b4 : T_api_Index)
theorem j0 (x19 : List UInt8) (hb : J0m b1) {l : List (Vector Int 2)} (hn : l.length < 1000000) : Jua x80 (J6l x2 x3 x4 x14 x19 x66 x67 x68 x78 x79 x80 l ((l.length : Nat) : Int) b1 b3 b4 0) := by
  refine JoS (f := fun s => J1r x2 x3 x4 x14 x19 x66 x67 x68 x78 x79 x80 l ((l.length : Nat) : Int) b1 b3 b4 s) hn (fun k hk => ?_) ?_
  · have e1 : ((k : Nat) : Int) < ((l.length : Nat) : Int) := by omega
    have v0 : J6Z l[k] 0 = some l[k][0] := J49 _ 0 (by omega)
    have v1 : J6Z l[k] 1 = some l[k][1] := J49 _ 1 (by omega)
    have i0 : inb 2 0 = some () := rfl
    have i1 : inb 2 1 = some () := rfl
    obtain ⟨r, d1, d2⟩ := JsD b4 l[k][0] l[k][1] x19
    simp only [J1r, e1, decide_true, if_true, J86 hk, Option.bind_some, v0, v1, i0, i1, d1, d2, bne_self_eq_false, beq_self_eq_true, Bool.false_eq_true, if_false, J1G (show k < 1000000 by omega)]
  · have e1 : ¬ ((l.length : Nat) : Int) < ((l.length : Nat) : Int) := by omega
    simp only [J1r, e1, decide_false, Bool.false_eq_true, if_false, J4s, Option.map_some]
    exact .some ⟨_, rfl, b1, rfl, hb⟩
theorem JjP {ρ α : Type} {f : Int × T_pagemenddraw_Codes → Option ((Int × T_pagemenddraw_Codes) ⊕ ρ)} {l : List α} {Q : ρ → Prop} (hl : l.length < 1000000)
    (h1 : ∀ (k : Nat) (b : T_pagemenddraw_Codes), k < l.length → J0m b → Tot (f ((k : Int), b)) fun r => ∃ b', r = .inl (IntKind.wrap .i64 ((k : Int) + 1), b') ∧ J0m b')
    (h2 : ∀ b, J0m b → Tot (f ((l.length : Int), b)) fun r => ∃ o, r = .inr o ∧ Q o) {b : T_pagemenddraw_Codes} (hb : J0m b) : Tot (JK f ((0 : Int), b)) Q := by
  obtain ⟨o, ho, hq⟩ := J1z (f := f) (fun s => ∃ j : Nat, s.1 = j ∧ j ≤ l.length ∧ J0m s.2) (fun s => (l.length - s.1).toNat) (fun o => Q o) (fun s ⟨j, hj, h4, hc⟩ => by
    obtain ⟨q, c⟩ := s
    simp only at hj hc
    subst hj
    by_cases hlt : j < l.length
    · left
      obtain ⟨r, e, b', rfl, hb'⟩ := h1 j c hlt hc
      rw [J1G (by omega)] at e
      exact ⟨_, e, ⟨j + 1, rfl, by omega, hb'⟩, by show ((l.length : Int) - ((j + 1 : Nat) : Int)).toNat < ((l.length : Int) - (j : Int)).toNat; omega⟩
    · right
      have hj : j = l.length := by omega
      subst hj
      obtain ⟨r, e, o, rfl, hq⟩ := h2 c hc
      exact ⟨o, e, hq⟩) ((0 : Int), b) ⟨0, rfl, by omega, hb⟩
  exact ⟨o, ho, hq⟩
theorem j2 (hb : J0m b1) {l : List (List UInt8)} (hn : l.length < 1000000) : Jua x68 (J6j x2 x3 x4 x14 x66 x67 x68 l ((l.length : Nat) : Int) b3 b4 (0, b1)) := by
  refine JjP (f := fun s => J1s x2 x3 x4 x14 x66 x67 x68 l ((l.length : Nat) : Int) b3 b4 s.1 s.2) hn (fun k b hk hc => ?_) (fun b hc => ?_) hb
  · have e1 : ((k : Nat) : Int) < ((l.length : Nat) : Int) := by omega
    simp only [J1s, e1, decide_true, if_true]
    exact .eq (J86 hk) (.bind (Jal hc (by omega) (by omega)) fun r1 ⟨h1, _⟩ => .bind (Jal h1 (by omega) (by omega)) fun r2 ⟨h2, _⟩ => .bind (Jal h2 (by omega) (by omega)) fun r3 ⟨h3, _⟩ =>
      j0 x2 x3 x4 x14 x66 x67 x68 l ((l.length : Nat) : Int) k b3 b4 _ h3 (by simp))
  · have e1 : ¬ ((l.length : Nat) : Int) < ((l.length : Nat) : Int) := by omega
    simp only [J1s, e1, decide_false, Bool.false_eq_true, if_false, J4r, Option.map_some]
    exact .some ⟨_, rfl, b, rfl, hc⟩
theorem j4 (hb : J0m b1) (h14 : x14.length ≤ 60000) {l : List T_api_Index} (hn : l.length < 1000000) : Tot (J4q x2 x3 x4 x14 l ((l.length : Nat) : Int) b3 (0, b1)) fun r => r = true := by
  refine JjP (f := fun s => J1q x2 x3 x4 x14 l ((l.length : Nat) : Int) b3 s.1 s.2) hn (fun k b hk hc => ?_) (fun b hc => ?_) hb
  · have e1 : ((k : Nat) : Int) < ((l.length : Nat) : Int) := by omega
    simp only [J1q, e1, decide_true, if_true]
    exact .eq (J86 hk) (.bind (Jt1 hc h14) fun r1 ⟨h1, _⟩ => .eq JlY (j2 x2 x3 x4 x14 l ((l.length : Nat) : Int) k b3 _ h1 (by simp)))
  · have e1 : ¬ ((l.length : Nat) : Int) < ((l.length : Nat) : Int) := by omega
    simp only [J1q, e1, decide_false, Bool.false_eq_true, if_false, J4p, Option.map_some]
    exact .some ⟨_, rfl, rfl⟩
end
theorem Jdl {l : List Int} {raw : T_api_Index} {id head : Int} {s : List UInt8} {q1 q2 q3 q4 : Prop} (h : List.length l ≤ maxLen ∧ ∀ x ∈ l, 0 ≤ x ∧ x ≤ 255) (_ : q1) (_ : q2) (_ : q3) (_ : q4) : J3r l raw id head s = some true := by
  unfold J3r
  simp only [JoW, Option.bind_some, if_true]
  by_cases c1 : ((raw.Rows.length : Nat) : Int) > 100
  · simp only [c1, decide_true, if_true]
  by_cases c2 : ((s.length : Nat) : Int) > 600
  · simp only [c1, c2, decide_true, decide_false, Bool.false_eq_true, if_true, if_false]
  simp only [c1, c2, decide_false, Bool.false_eq_true, if_false]
  obtain ⟨b0, a1, hb0⟩ := JuW h (n := 200) (by omega)
  have a1' : J6i l 200 = some b0 := a1
  have t : Tot (Option.bind (J6i l 200) fun r7 => Option.bind (J51 r7) fun r10 => Option.bind (Jv r10.2 5) fun r13 => Option.bind (J2Q r13.2 r13.1) fun r16 =>
        Option.bind (J2P r16.1) fun r19 => Option.bind (J7V r16.2 r10.1) fun r22 =>
        J4q id head s r19.1 ([raw, r10.1, r22.1] : List T_api_Index) ((List.length ([raw, r10.1, r22.1] : List T_api_Index) : Nat) : Int) r16.1 (0, r22.2)) fun r => r = true := by
    refine .eq a1' (.bind (JuO hb0) fun r1 ⟨h1, h2, h3⟩ => .bind (Jal h1 (by omega) (by omega)) fun r2 ⟨h4, h5, h6⟩ => .bind (Jwd h4 h5 (by omega)) fun r3 ⟨h7, h8, _⟩ => ?_)
    have e : J2P r3.1 = some (Jhi r3.1, 0) := by rw [Jfh, Jm7 h8]
    refine .eq e (.bind (JsM h7 h2 h3) fun r4 ⟨h9, _⟩ => ?_)
    exact j4 id head s _ r3.1 h9 (by rw [JrB h8]; omega) (by simp)
  obtain ⟨r, e, rfl⟩ := t
  exact e
end Go.Am
end
section
namespace Go.Am
section
variable (P : Program)
def Jbl : Nat → TypeId → Bool
  | 0, _ => false
  | n + 1, t => match P.underlying t with
    | some .bool => true
    | some (.int _) => true
    | some .string => true
    | some (.slice e) => Jbl n e && decide (t < P.types.size ∧ 0 < P.cellsOf e)
    | some (.struct fs) => fs.toList.all (fun f => Jbl n f.type) && decide (t < P.types.size)
    | some (.array _ e) => Jbl n e && decide (t < P.types.size)
    | _ => false
def J8u : Nat → TypeId → List PV → Prop
  | 0, _, _ => False
  | n + 1, t, pvs => match P.underlying t with
    | some .bool => ∃ b, pvs = [.b b]
    | some (.int k) => ∃ z, pvs = [.i k z] ∧ (Lit.int k z).wf = true
    | some .string => ∃ l, pvs = [.s l] ∧ l.length ≤ maxLen
    | some (.slice e) => ∃ rows, pvs = [.sl (P.cellsOf e) rows] ∧ rows.length ≤ maxLen ∧ ∀ row ∈ rows, row.length = P.cellsOf e ∧ J8u n e row
    | some (.struct fs) => pvs.length = P.cellsOf t ∧ ∀ f ∈ fs.toList, J8u n f.type ((pvs.drop f.offset).take (P.cellsOf f.type))
    | some (.array m e) => pvs.length = P.cellsOf t ∧ ∀ i, i < m → J8u n e ((pvs.drop (i * P.cellsOf e)).take (P.cellsOf e))
    | _ => False
end
section
variable {H : Type} {enc : TypeId × Value → H} {P : Program} {w : World} {base : Nat} {sp : Nat → Bool} {held : Bool}
def Jqo (w : World) (pvs : List PV) (cs : List Value) : Prop :=
  pvs.length = cs.length ∧ ∀ (i : Nat) p v, pvs[i]? = some p → cs[i]? = some v → J0n w (fun r _ => r < w.heap.size) p v
theorem Jmd {a : Addr} {v : Value} (h : w.cell? a = some v) : a.spot = none ∧ J0F w a.block a.off = some v ∧ a.block < w.heap.size := by
  unfold World.cell? at h
  unfold J0F
  split at h
  · rename_i c t fz hb
    split at h
    · cases h
    · rename_i hs
      refine ⟨by simpa using hs, by rw [hb]; exact h, ?_⟩
      have := Array.getElem?_eq_some_iff.1 hb
      exact this.1
  · cases h
theorem JsC {a : Addr} {n : Nat} {cs : List Value} (h : w.cells? base a n = some cs) : cs.length = n ∧ ∀ i v, cs[i]? = some v → w.cell? (a.add i) = some v := by
  unfold World.cells? at h
  split at h
  · have hl := mapM_some_length h
    refine ⟨by simpa using hl, fun i v hv => ?_⟩
    have hi : i < n := by
      have := (List.getElem?_eq_some_iff.1 hv).1
      simp at hl; omega
    have := mapM_some_get h i i (by simp [hi])
    rw [this, hv]
  · cases h
theorem Jkk {α : Type} (Q : Nat → α → Prop) : ∀ (m : Nat), (∀ i, i < m → ∃ x, Q i x) → ∃ xs : List α, xs.length = m ∧ ∀ i x, xs[i]? = some x → Q i x
  | 0, _ => ⟨[], rfl, fun i x h => by simp at h⟩
  | m + 1, h => by
    obtain ⟨xs, hl, hx⟩ := Jkk Q m (fun i hi => h i (by omega))
    obtain ⟨y, hy⟩ := h m (by omega)
    refine ⟨xs ++ [y], by simp [hl], fun i x hi => ?_⟩
    rcases Nat.lt_or_ge i xs.length with hlt | hge
    · rw [List.getElem?_append_left hlt] at hi; exact hx i x hi
    · rw [List.getElem?_append_right hge] at hi
      have : i - xs.length = 0 := by
        have := (List.getElem?_eq_some_iff.1 hi).1
        simp at this; omega
      rw [this] at hi
      simp at hi; subst hi
      obtain rfl : i = m := by omega
      exact hy
theorem JgC {α : Type} : ∀ (xs : List (List α)) (j : Nat) (y : List α), xs[j]? = some y → (xs.flatten.drop ((xs.take j).map List.length).sum).take y.length = y
  | [], j, y, h => by simp at h
  | x :: xs, 0, y, h => by simp at h; subst h; simp
  | x :: xs, j + 1, y, h => by
    simp at h
    have := JgC xs j y h
    simp only [List.take_succ_cons, List.map_cons, List.sum_cons, List.flatten_cons, List.drop_length_add_append]
    exact this
theorem JuC (hl : laidOutB P = true) (hm : mapsRowed P = true) : ∀ (n : Nat) (t : TypeId) (cs : List Value) (x : DataW H × List MemPlace) (fuel : Nat), Jbl P n t = true → DataW.trod enc P w base sp held fuel t cs = some x →
    ∃ pvs, J8u P n t pvs ∧ Jqo w pvs cs := by
  have K := kids_rows hl hm
  intro n
  induction n with
  | zero => intro t cs x fuel hp; simp [Jbl] at hp
  | succ n ih =>
    intro t cs x fuel hp h
    unfold Jbl at hp
    unfold J8u
    split at hp
    · rename_i ht
      obtain ⟨b, rfl, _⟩ := DataW.trod_bool ht h
      refine ⟨[.b b], by simp, rfl, fun i p v h1 h2 => ?_⟩
      match i with
      | 0 => simp at h1 h2; subst h1 h2; exact .b _
      | i + 1 => simp at h1
    · rename_i k ht
      obtain ⟨z, rfl, _, hwf⟩ := DataW.trod_int ht h
      refine ⟨[.i k z], by simpa using hwf, rfl, fun i p v h1 h2 => ?_⟩
      match i with
      | 0 => simp at h1 h2; subst h1 h2; exact .i _ _
      | i + 1 => simp at h1
    · rename_i ht
      obtain ⟨s, rfl, _, hsz⟩ := DataW.trod_string ht h
      refine ⟨[.s s.data.toList], ⟨_, rfl, by rw [Array.length_toList]; exact hsz⟩, rfl, fun i p v h1 h2 => ?_⟩
      match i with
      | 0 => simp at h1 h2; subst h1 h2; exact .s _
      | i + 1 => simp at h1
    · rename_i e ht
      simp only [Bool.and_eq_true, decide_eq_true_eq] at hp
      rcases DataW.trod_slice ht h with ⟨rfl, _⟩ | ⟨a, len, cap, elems, rest, n0, _, rfl, _, _, hlc, hcm, hel, hat, _⟩
      · refine ⟨[.sl (P.cellsOf e) []], ⟨[], rfl, Nat.zero_le _, by simp⟩, rfl, fun i p v h1 h2 => ?_⟩
        match i with
        | 0 => simp at h1 h2; subst h1 h2; exact .sl0 _ _ _
        | i + 1 => simp at h1
      ·
        have hrow : ∀ i, i < len → ∃ row : List PV, (row.length = P.cellsOf e ∧ J8u P n e row) ∧ ∀ j p, row[j]? = some p → ∃ v, w.cell? (a.add (i * P.cellsOf e) |>.add j) = some v ∧ J0n w (fun r _ => r < w.heap.size) p v := by
          intro i hi
          have h1 := hat i hi
          have h2 : ∃ y, elems[i]? = some y := ⟨_, List.getElem?_eq_getElem (by omega)⟩
          obtain ⟨y, hy⟩ := h2
          rw [hy, Option.bind_eq_some_iff] at h1
          obtain ⟨cs', hc, ht'⟩ := h1
          obtain ⟨row, q1, q2, q3⟩ := ih e cs' y n0 hp.1 ht'
          obtain ⟨c1, c2⟩ := JsC hc
          refine ⟨row, ⟨by omega, q1⟩, fun j p hj => ?_⟩
          have hlt : j < cs'.length := by have := (List.getElem?_eq_some_iff.1 hj).1; omega
          have hv := List.getElem?_eq_getElem hlt
          exact ⟨_, c2 j _ hv, q3 j p _ hj hv⟩
        obtain ⟨rows, hrl, hrows⟩ := Jkk _ len hrow
        refine ⟨[.sl (P.cellsOf e) rows], ⟨rows, rfl, by omega, fun row hr => ?_⟩, rfl, fun i p v h1 h2 => ?_⟩
        · obtain ⟨i, hi⟩ := List.getElem?_of_mem hr
          exact (hrows i row hi).1
        match i with
        | i + 1 => simp at h1
        | 0 =>
          simp at h1 h2; subst h1 h2
          by_cases h0 : ∃ (i j : Nat) (row : List PV) (p : PV), rows[i]? = some row ∧ row[j]? = some p
          · obtain ⟨i0, j0, row0, p0, hr0, hp0⟩ := h0
            have spot : a.spot = none ∨ P.cellsOf e = 0 := by
              rcases Nat.eq_zero_or_pos (P.cellsOf e) with hz | hpos
              · exact .inr hz
              · have hlen : 0 < len := by have := (List.getElem?_eq_some_iff.1 hr0).1; omega
                have hr00 := List.getElem?_eq_getElem (l := rows) (i := 0) (by omega)
                have q := hrows 0 _ hr00
                have hj0 := List.getElem?_eq_getElem (l := rows[0]'(by omega)) (i := 0) (by omega)
                obtain ⟨v, hv, _⟩ := q.2 0 _ hj0
                rw [Nat.zero_mul] at hv
                exact .inl (by simpa [Addr.add] using (Jmd hv).1)
            rcases spot with spot | hz
            · have cell : ∀ (i j : Nat) (row : List PV) (p : PV), rows[i]? = some row → row[j]? = some p → ∃ v, (a.block < w.heap.size ∧ J0F w a.block (a.off + i * P.cellsOf e + j) = some v) ∧ J0n w (fun r _ => r < w.heap.size) p v := by
                intro i j row p hi hj
                obtain ⟨v, hv, hr⟩ := (hrows i row hi).2 j p hj
                obtain ⟨s1, s2, s3⟩ := Jmd hv
                refine ⟨v, ?_, hr⟩
                have e1 : ((a.add (i * P.cellsOf e)).add j).block = a.block := by unfold Addr.add; split <;> split <;> rfl
                have e2 : ((a.add (i * P.cellsOf e)).add j).off = a.off + i * P.cellsOf e + j := by
                  unfold Addr.add
                  split <;> split <;> simp_all
                rw [e1] at s3
                rw [e1, e2] at s2
                exact ⟨s3, s2⟩
              have ea : a = ⟨a.block, a.off, none⟩ := by cases a; simp_all
              rw [ea, ← hrl]
              refine .sl _ rows a.block a.off cap (fun i j => ((J0F w a.block (a.off + i * P.cellsOf e + j)).getD default)) (by omega) (fun row hr => ?_) (fun i j row p hi hj => ?_) (fun i j row p hi hj => ?_)
              · obtain ⟨i, hi⟩ := List.getElem?_of_mem hr
                exact (hrows i row hi).1.1
              · obtain ⟨v, ⟨h3, h4⟩, _⟩ := cell i j row p hi hj
                exact ⟨h3, by rw [h4]; rfl⟩
              · obtain ⟨v, ⟨h3, h4⟩, h5⟩ := cell i j row p hi hj
                rw [h4]; exact h5
            · have := (hrows i0 row0 hr0).1.1
              have := (List.getElem?_eq_some_iff.1 hp0).1
              omega
          ·
            rcases Nat.eq_zero_or_pos len with hz | hpos
            · have : rows = [] := by cases rows <;> simp_all
              subst this
              subst hz
              exact .sl0 _ _ _
            · exfalso
              have hr00 := List.getElem?_eq_getElem (l := rows) (i := 0) (by omega)
              have q := (hrows 0 _ hr00).1.1
              exact h0 ⟨0, 0, _, _, hr00, List.getElem?_eq_getElem (by omega)⟩
    · rename_i fs ht
      simp only [Bool.and_eq_true, decide_eq_true_eq, List.all_eq_true] at hp
      obtain ⟨xs, n0, _, _, hcl, hxl, hat⟩ := DataW.trod_struct ht h
      obtain ⟨_, ksum, koff⟩ := K.struct hp.2 ht
      have hf : ∀ i, i < fs.toList.length → ∃ ys : List PV, ∀ f, fs.toList[i]? = some f → J8u P n f.type ys ∧ Jqo w ys ((cs.drop f.offset).take (P.cellsOf f.type)) := by
        intro i hi
        have hfi := List.getElem?_eq_getElem hi
        have hmem := List.mem_of_getElem? hfi
        have hfa : fs[i]? = some (fs.toList[i]) := by rw [← Array.getElem?_toList]; exact hfi
        have h1 := hat i _ hfa
        have h2 : ∃ y, xs[i]? = some y := ⟨_, List.getElem?_eq_getElem (by simpa [hxl] using hi)⟩
        obtain ⟨y, hy⟩ := h2
        rw [hy] at h1
        obtain ⟨ys, q1, q2⟩ := ih _ _ _ _ (hp.1 _ hmem) h1
        refine ⟨ys, fun f hff => ?_⟩
        rw [hfi] at hff; injection hff with hff; subst hff
        exact ⟨q1, q2⟩
      obtain ⟨yss, hyl, hys⟩ := Jkk _ _ hf
      have hlen : ∀ (j : Nat) (f : Field), fs.toList[j]? = some f → ∀ ys : List PV, yss[j]? = some ys → ys.length = P.cellsOf f.type := by
        intro j f hj ys hy
        have q := (hys j ys hy f hj).2.1
        have o := koff j f hj
        rw [q, List.length_take, List.length_drop, hcl, ksum, o]
        have : ((fs.toList.take j).map fun f => P.cellsOf f.type).sum + P.cellsOf f.type ≤ (fs.toList.map fun f => P.cellsOf f.type).sum := by
          have e1 : fs.toList = fs.toList.take j ++ (f :: fs.toList.drop (j + 1)) := by
            have hjl := (List.getElem?_eq_some_iff.1 hj)
            obtain ⟨hjl, he⟩ := hjl
            rw [← he, ← List.drop_eq_getElem_cons hjl, List.take_append_drop]
          conv => rhs; rw [e1]
          simp only [List.map_append, List.map_cons, List.sum_append, List.sum_cons]
          omega
        omega
      have hmapl : yss.map List.length = fs.toList.map fun f => P.cellsOf f.type := by
        apply List.ext_getElem?
        intro j
        rw [List.getElem?_map, List.getElem?_map]
        cases hy : yss[j]? with
        | none =>
          have : fs.toList[j]? = none := by rw [List.getElem?_eq_none_iff] at hy ⊢; omega
          rw [this]; rfl
        | some ys =>
          have hj : j < fs.toList.length := by have := (List.getElem?_eq_some_iff.1 hy).1; omega
          have hfj := List.getElem?_eq_getElem hj
          rw [hfj]
          simp only [Option.map_some]
          rw [hlen j _ hfj ys hy]
      have hoff : ∀ (j : Nat) (f : Field), fs.toList[j]? = some f → ((yss.take j).map List.length).sum = f.offset := by
        intro j f hj
        rw [koff j f hj, List.map_take, hmapl, ← List.map_take]
      refine ⟨yss.flatten, ⟨?_, fun f hf => ?_⟩, ?_, fun i p v h1 h2 => ?_⟩
      · rw [List.length_flatten, hmapl, ksum]
      · obtain ⟨j, hj⟩ := List.getElem?_of_mem hf
        have hjl : j < yss.length := by have := (List.getElem?_eq_some_iff.1 hj).1; omega
        have hyj := List.getElem?_eq_getElem hjl
        have := JgC yss j _ hyj
        rw [hoff j f hj, hlen j f hj _ hyj] at this
        rw [this]
        exact (hys j _ hyj f hj).1
      · rw [List.length_flatten, hmapl, hcl, ksum]
      ·
        have key : ∀ (l : List (List PV)) (i : Nat) p, l.flatten[i]? = some p → ∃ j ys k, l[j]? = some ys ∧ ys[k]? = some p ∧ i = ((l.take j).map List.length).sum + k := by
          intro l
          induction l with
          | nil => intro i p h; simp at h
          | cons y l ihl =>
            intro i p h
            rw [List.flatten_cons] at h
            rcases Nat.lt_or_ge i y.length with hlt | hge
            · rw [List.getElem?_append_left hlt] at h
              exact ⟨0, y, i, rfl, h, by simp⟩
            · rw [List.getElem?_append_right hge] at h
              obtain ⟨j, ys, k, a1, a2, a3⟩ := ihl _ _ h
              exact ⟨j + 1, ys, k, by simpa using a1, a2, by simp only [List.take_succ_cons, List.map_cons, List.sum_cons]; omega⟩
        obtain ⟨j, ys, k, a1, a2, a3⟩ := key _ _ _ h1
        have hj : j < fs.toList.length := by have := (List.getElem?_eq_some_iff.1 a1).1; omega
        have hfj := List.getElem?_eq_getElem hj
        have q := (hys j ys a1 _ hfj).2
        refine q.2 k p v a2 ?_
        have hk : k < P.cellsOf (fs.toList[j]).type := by have := (List.getElem?_eq_some_iff.1 a2).1; rw [hlen j _ hfj ys a1] at this; exact this
        rw [List.getElem?_take_of_lt hk, List.getElem?_drop, ← hoff j _ hfj, ← a3]
        exact h2
    · rename_i m e ht
      simp only [Bool.and_eq_true, decide_eq_true_eq] at hp
      obtain ⟨xs, n0, _, _, hcl, hxl, hat⟩ := DataW.trod_array ht h
      obtain ⟨_, ksz⟩ := K.array hp.2 ht
      have hf : ∀ i, i < m → ∃ ys : List PV, J8u P n e ys ∧ Jqo w ys ((cs.drop (i * P.cellsOf e)).take (P.cellsOf e)) := by
        intro i hi
        have h1 := hat i hi
        have h2 : ∃ y, xs[i]? = some y := ⟨_, List.getElem?_eq_getElem (by omega)⟩
        obtain ⟨y, hy⟩ := h2
        rw [hy] at h1
        exact ih _ _ _ _ hp.1 h1
      obtain ⟨yss, hyl, hys⟩ := Jkk _ _ hf
      have hlen : ∀ (j : Nat) ys, yss[j]? = some ys → ys.length = P.cellsOf e := by
        intro j ys hy
        have q := (hys j ys hy).2.1
        have hj : j < m := by have := (List.getElem?_eq_some_iff.1 hy).1; omega
        rw [q, List.length_take, List.length_drop, hcl, ksz]
        have : j * P.cellsOf e + P.cellsOf e ≤ m * P.cellsOf e := by rw [← Nat.succ_mul]; exact Nat.mul_le_mul_right _ hj
        omega
      have hall : ∀ y ∈ yss, y.length = P.cellsOf e := fun y hy => by
        obtain ⟨j, hj⟩ := List.getElem?_of_mem hy
        exact hlen j y hj
      have hsum : ∀ l : List (List PV), (∀ y ∈ l, y.length = P.cellsOf e) → (l.map List.length).sum = l.length * P.cellsOf e := by
        intro l
        induction l with
        | nil => intro _; simp
        | cons y l ihl => intro hh; simp [hh y (by simp), ihl (fun z hz => hh z (by simp [hz])), Nat.succ_mul, Nat.add_comm]
      have hoff : ∀ j, j ≤ m → ((yss.take j).map List.length).sum = j * P.cellsOf e := by
        intro j hj
        rw [hsum _ (fun y hy => hall y (List.mem_of_mem_take hy)), List.length_take, hyl, Nat.min_eq_left hj]
      refine ⟨yss.flatten, ⟨?_, fun j hj => ?_⟩, ?_, fun i p v h1 h2 => ?_⟩
      · rw [List.length_flatten, hsum _ hall, hyl, ksz]
      · have hyj := List.getElem?_eq_getElem (l := yss) (i := j) (by omega)
        have := JgC yss j _ hyj
        rw [hoff j (by omega), hlen j _ hyj] at this
        rw [this]
        exact (hys j _ hyj).1
      · rw [List.length_flatten, hsum _ hall, hcl, hyl, ksz]
      · have key : ∀ (l : List (List PV)) (i : Nat) p, l.flatten[i]? = some p → ∃ j ys k, l[j]? = some ys ∧ ys[k]? = some p ∧ i = ((l.take j).map List.length).sum + k := by
          intro l
          induction l with
          | nil => intro i p h; simp at h
          | cons y l ihl =>
            intro i p h
            rw [List.flatten_cons] at h
            rcases Nat.lt_or_ge i y.length with hlt | hge
            · rw [List.getElem?_append_left hlt] at h
              exact ⟨0, y, i, rfl, h, by simp⟩
            · rw [List.getElem?_append_right hge] at h
              obtain ⟨j, ys, k, a1, a2, a3⟩ := ihl _ _ h
              exact ⟨j + 1, ys, k, by simpa using a1, a2, by simp only [List.take_succ_cons, List.map_cons, List.sum_cons]; omega⟩
        obtain ⟨j, ys, k, a1, a2, a3⟩ := key _ _ _ h1
        have hj : j < m := by have := (List.getElem?_eq_some_iff.1 a1).1; omega
        have q := (hys j ys a1).2
        refine q.2 k p v a2 ?_
        have hk : k < P.cellsOf e := by have := (List.getElem?_eq_some_iff.1 a2).1; rw [hlen j ys a1] at this; exact this
        rw [List.getElem?_take_of_lt hk, List.getElem?_drop, ← hoff j (by omega), ← a3]
        exact h2
    · cases hp
end
end Go.Am
end
section
namespace Go.Am
open Go.ChangeShapes Go.WideShapes Go.ChangeAt Go.RowKit
def gh0 (w : World) : Gh := ⟨fun _ => none, fun r _ => r < w.heap.size⟩
theorem Jly (g : Gh) (w : World) (b r o : Nat) : ¬ Wr1 ⟨[], g, w⟩ b r o := by
  unfold Wr1; simp
theorem JxJ (w : World) : Inv ⟨[], gh0 w, w⟩ where
  box := fun b cs h => by simp at h
  arr := fun b wm esz rows h => by simp at h
  apart := fun b1 b2 r o h => absurd h (Jly _ _ _ _ _)
  const := fun r o h => ⟨h, fun b => Jly _ _ _ _ _⟩
def Jdu (w w' : World) : Prop := JcN (fun _ _ => False) w w'
theorem Jdu.kept {w w' : World} (h : Jdu w w') (may : MemPlace → Prop) : w.keptBut w' may := by
  obtain ⟨h1, h2, h3, h4, h5⟩ := h
  refine ⟨h4, h5, fun i hi => ?_⟩
  have hg := Array.getElem?_eq_getElem hi
  cases hw : w.heap[i]? with
  | none => rw [hg] at hw; cases hw
  | some x =>
    cases x with
    | cells c e fz =>
      obtain ⟨c', q1, q2, q3⟩ := h2 i c e fz hw
      rw [q1]
      exact ⟨rfl, rfl, q2, fun j _ => q3 j (fun hf => hf)⟩
    | map es clock =>
      have := h3 i _ hw (fun c e fz he => by cases he)
      rw [this]
      exact .inr ⟨rfl, rfl⟩
    | _ =>
      have := h3 i _ hw (fun c e fz he => by cases he)
      rw [this]
theorem Jdu.same {w w' : World} (h : Jdu w w') {p : MemPlace} (hp : p.block < w.heap.size) : w.sameAt w' p := by
  obtain ⟨h1, h2, h3, h4, h5⟩ := h
  cases p with
  | cell b off =>
    have hb : b < w.heap.size := hp
    have hg := Array.getElem?_eq_getElem hb
    show w'.cell? ⟨b, off, none⟩ = w.cell? ⟨b, off, none⟩
    rw [J9W, J9W]
    unfold J0F
    cases hw : w.heap[b]? with
    | none => rw [hg] at hw; cases hw
    | some x =>
      cases x with
      | cells c e fz =>
        obtain ⟨c', q1, q2, q3⟩ := h2 b c e fz hw
        rw [q1]
        exact q3 off (fun hf => hf)
      | _ =>
        have := h3 b _ hw (fun c e fz he => by cases he)
        rw [this]
  | map b =>
    have hb : b < w.heap.size := hp
    have hg := Array.getElem?_eq_getElem hb
    show w'.heap[b]? = w.heap[b]?
    cases hw : w.heap[b]? with
    | none => rw [hg] at hw; cases hw
    | some x =>
      cases x with
      | cells c e fz =>
        obtain ⟨c', q1, q2, q3⟩ := h2 b c e fz hw
        rw [q1]
        have : c' = c := by
          apply Array.ext_getElem?
          intro i
          exact q3 i (fun hf => hf)
        rw [this]
      | _ => exact h3 b _ hw (fun c e fz he => by cases he)
theorem Jdu.frozen {w w' : World} (h : Jdu w w') {a : Addr} (hp : a.block < w.heap.size) : w'.frozen? a = w.frozen? a := by
  obtain ⟨h1, h2, h3, h4, h5⟩ := h
  have hg := Array.getElem?_eq_getElem hp
  unfold World.frozen?
  cases hw : w.heap[a.block]? with
  | none => rw [hg] at hw; cases hw
  | some x =>
    cases x with
    | cells c e fz =>
      obtain ⟨c', q1, q2, q3⟩ := h2 a.block c e fz hw
      rw [q1]
    | _ =>
      have := h3 a.block _ hw (fun c e fz he => by cases he)
      rw [this]
theorem JrC {P : Program} {F : Orc} (hF : J6M P F) {f : FuncId} {args : List AV} {vals : Array Value} {w : World} (hl : args.length = vals.size)
    (hr : ∀ (i : Nat) x v, args[i]? = some x → vals[i]? = some v → JE ⟨[], gh0 w, w⟩ x v) (h : F f args [] = some (.p (.b true), [])) :
    Calls P f vals w fun e w' => e = .returned (.bool true) ∧ Jdu w w' := by
  refine ((hF _ _ _ _ h).2 (gh0 w) w vals (JxJ w) hl hr).mono fun e w' ⟨v, g', he, _, ht, hrel⟩ => ?_
  cases hrel with
  | p _ _ hrel =>
    cases hrel with
    | b =>
      refine ⟨he, ?_⟩
      obtain ⟨k1, k2, k3, k4⟩ := ht.keep
      refine ⟨k1, fun r c e fz hr => ?_, k3, k4⟩
      obtain ⟨c', q1, q2, q3⟩ := k2 r c e fz hr
      exact ⟨c', q1, q2, fun o _ => q3 o (fun ⟨b, hb⟩ => Jly _ _ _ _ _ hb)⟩
section
variable {H : Type} {enc : TypeId × Value → H} {P : Program}
theorem JfN (hl : laidOutB P = true) (hm : mapsRowed P = true) (hsz : ∀ {t e : TypeId}, t < P.types.size → P.underlying t = some (.slice e) → 0 < P.cellsOf e) {W W' : World} {sp : Nat → Bool} :
    ∀ {ts : List TypeId} {vs : List Value} {ds : List (DataW H)} {ps : List MemPlace}, (∀ t ∈ ts, t < P.types.size) → DataW.TrodAll enc P W 0 (fun _ => true) true ts vs ds ps →
      (∀ p ∈ ps, W.sameAt W' p) → (∀ p ∈ ps, sp p.block = true) → DataW.TrodAll enc P W' 0 sp true ts vs ds ps
  | [], [], [], _, _, h, _, _ => h
  | [], _ :: _, _, _, _, h, _, _ => h.elim
  | [], [], _ :: _, _, _, h, _, _ => h.elim
  | _ :: _, [], _, _, _, h, _, _ => h.elim
  | _ :: _, _ :: _, [], _, _, h, _, _ => h.elim
  | t :: ts, v :: vs, d :: ds, _, hT, ⟨p, q, ⟨n, h1⟩, h2, rfl⟩, hs, hp => by
    refine ⟨p, q, ⟨n, DataW.trod_stays (kids_rows hl hm) hsz (fun h => by cases h) (hT t (by simp)) h1 (fun x hx => hs x (by simp [hx])) (fun x hx => hp x (by simp [hx]))⟩, ?_, rfl⟩
    exact JfN hl hm hsz (fun x hx => hT x (by simp [hx])) h2 (fun x hx => hs x (by simp [hx])) (fun x hx => hp x (by simp [hx]))
def JbI (P : Program) : Bool := (List.range P.types.size).all fun t => match P.underlying t with
  | some (.slice e) => decide (0 < P.cellsOf e)
  | _ => true
theorem Jok (h : JbI P = true) {t e : TypeId} (ht : t < P.types.size) (he : P.underlying t = some (.slice e)) : 0 < P.cellsOf e := by
  unfold JbI at h
  rw [List.all_eq_true] at h
  have := h t (by simpa using ht)
  rw [he] at this
  simpa using this
theorem Jss {fn : Func} {s : ChangeSpec} {tb : TypeId} (hl : laidOutB P = true) (hm : mapsRowed P = true) (hsz : JbI P = true) (hpar : ∀ t ∈ fn.params.toList, t < P.types.size)
    (hres : fn.resultTypes = #[tb]) (htb : P.underlying tb = some .bool) (hvars : s.vars = []) {apart fresh handsOn again : Bool} {W W' : World} {args : Array Value} {ds gs : List (DataW H)} {before : List MemPlace}
    (hfn : gs = [] → s.fn H (ds ++ gs) = { results := [.lit (.bool true)], args := ds })
    (hW : DataW.Whole enc P fn.params.toList s.vars apart W args.toList ds gs before) (hst : Jdu W W') : s.post enc P fn apart fresh handsOn again W args (.bool true) W' := by
  have hW0 := hW
  have hlt := hW.lt
  obtain ⟨p, q, h1, h2, rfl, hz, hn⟩ := hW
  rw [hvars] at h2
  obtain ⟨rfl, rfl⟩ := trodVars_none h2
  rw [List.append_nil] at hW0 hlt hz hn
  have hf := hfn rfl
  have hargs : ∀ sp : Nat → Bool, (∀ x ∈ p, sp x.block = true) → DataW.TrodAll enc P W' 0 sp true fn.params.toList args.toList ds p := fun sp hp =>
    JfN hl hm (fun ht he => Jok hsz ht he) hpar h1 (fun x hx => hst.same (hlt x hx)) hp
  have hr : ∀ (b : Nat) (sp : Nat → Bool) (hd : Bool), DataW.TrodAll enc P W' b sp hd fn.resultTypes.toList ((Value.bool true).resultList fn.resultTypes.size) [.lit (.bool true)] [] := by
    intro b sp hd
    rw [hres]
    exact trodAll_cons_mk (shut_bool htb _) trodAll_mk0
  refine ⟨ds, [], p, [], p, [], hW0, ?_, ?_, ?_, hst.kept _, fun _ => ⟨?_, ?_⟩⟩
  · rw [hf]; exact hr _ _ _
  · rw [hf]; exact hargs _ (fun x hx => by simpa using hlt x hx)
  · rw [hf, hvars]; rfl
  · exact ok_one hres rfl (okWide_bool_mk htb _)
  · refine ⟨_, [], [] ++ p, ⟨[] ++ p, [], trodAll_append (hargs _ (fun _ _ => rfl)) (hr _ _ _), by rw [hvars]; rfl, by simp, fun b off hp => ?_, fun ha => by simpa using hn ha⟩, fun x hx _ => by simpa using hx⟩
    have hp' : MemPlace.cell b off ∈ p := by simpa using hp
    rw [hst.frozen (a := ⟨b, off, none⟩) (hlt _ hp')]
    exact hz b off hp'
def Je2 (P : Program) (t : TypeId) (pvs : List PV) : AV := match P.underlying t with
  | some (.struct _) => .data pvs
  | some (.array _ _) => .data pvs
  | _ => match pvs with
    | [c] => .p c
    | _ => .unk
theorem Jen (hl : laidOutB P = true) (hm : mapsRowed P = true) {n : Nat} {t : TypeId} {w : World} {r : Reach} {base : Nat} {sp : Nat → Bool} {v : Value} {d : DataW H} {ps : List MemPlace} (hp : Jbl P n t = true)
    (hv : Value.okWide P w r base t v) (h : DataW.Trod enc P w 0 sp true t v d ps) : ∃ pvs, J8u P n t pvs ∧ JE ⟨[], gh0 w, w⟩ (Je2 P t pvs) v := by
  obtain ⟨fuel, h⟩ := h
  obtain ⟨pvs, q1, q2, q3⟩ := JuC hl hm n t _ _ fuel hp h
  refine ⟨pvs, q1, ?_⟩
  cases n with
  | zero => simp [Jbl] at hp
  | succ n =>
    unfold Jbl at hp
    unfold Value.okWide at hv
    unfold Je2
    have one : ∀ {c : PV}, pvs = [c] → (∀ cs, v ≠ .agg cs) → JE ⟨[], gh0 w, w⟩ (.p c) v := by
      intro c hc hne
      subst hc
      refine .p _ _ (q3 0 c v rfl ?_)
      cases v <;> first | rfl | exact absurd rfl (hne _)
    unfold J8u at q1
    split at hp
    · rename_i ht
      rw [ht] at q1 hv ⊢
      obtain ⟨b, rfl⟩ := q1
      exact one rfl (fun cs he => by subst he; simp [Cell.okWide, Cell.ok, ht] at hv)
    · rename_i k ht
      rw [ht] at q1 hv ⊢
      obtain ⟨z, rfl, _⟩ := q1
      exact one rfl (fun cs he => by subst he; simp [Cell.okWide, Cell.ok, ht] at hv)
    · rename_i ht
      rw [ht] at q1 hv ⊢
      obtain ⟨z, rfl, _⟩ := q1
      exact one rfl (fun cs he => by subst he; simp [Cell.okWide, Cell.ok, ht] at hv)
    · rename_i e ht
      rw [ht] at q1 hv ⊢
      obtain ⟨rows, rfl, _⟩ := q1
      exact one rfl (fun cs he => by subst he; simp [Cell.okWide, Cell.ok, ht] at hv)
    · rename_i fs ht
      rw [ht] at hv ⊢
      obtain ⟨cs, rfl, _⟩ := hv
      exact .data _ _ (by simpa [Value.cells] using q2) (fun i x v h1 h2 => q3 i x v h1 (by simpa [Value.cells] using h2))
    · rename_i m e ht
      rw [ht] at hv ⊢
      obtain ⟨cs, rfl, _⟩ := hv
      exact .data _ _ (by simpa [Value.cells] using q2) (fun i x v h1 h2 => q3 i x v h1 (by simpa [Value.cells] using h2))
    · cases hp
end
end Go.Am
end
