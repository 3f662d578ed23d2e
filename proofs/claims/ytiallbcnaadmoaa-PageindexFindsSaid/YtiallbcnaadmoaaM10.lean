/-
  Parts of a proof: YtiallbcnaadmoaaPlain2, YtiallbcnaadmoaaCrc, YtiallbcnaadmoaaPlain3, YtiallbcnaadmoaaPlain4, YtiallbcnaadmoaaBack, YtiallbcnaadmoaaBack2, YtiallbcnaadmoaaBack3, YtiallbcnaadmoaaBack4, YtiallbcnaadmoaaBack5, YtiallbcnaadmoaaInj, YtiallbcnaadmoaaInj2, YtiallbcnaadmoaaRef, YtiallbcnaadmoaaRef2, YtiallbcnaadmoaaLaws, YtiallbcnaadmoaaPidx, YtiallbcnaadmoaaPidx2, YtiallbcnaadmoaaLoops, YtiallbcnaadmoaaTot, YtiallbcnaadmoaaPidx3, YtiallbcnaadmoaaPidx4, YtiallbcnaadmoaaPidx5, YtiallbcnaadmoaaPidx6, YtiallbcnaadmoaaPidx7, AmIn, AmLaw.
-/
import Derived.ChangeArms
import Derived.OpenShut
import Derived.ChangeBears
import Derived.ChangeStays
import Derived.Handed
import Derived.RowKit3
import Derived.WalkKit
import Derived.ProofKit
import Derived.Test.YtiallbcnaadmoaaM4
import Derived.Test.YtiallbcnaadmoaaM9
set_option linter.unusedSimpArgs false
set_option linter.unusedVariables false
section
namespace Go.Am
theorem JpW {a b : Int} (ha : 0 ≤ a) (ha2 : a ≤ 1099511627776) (hb : 0 ≤ b) (hb2 : b ≤ 1099511627776) (h : JH a 8 = JH b 8) : a = b := by
  have key : ∀ i : Nat, i < 8 → J3q a i = J3q b i := by
    intro i hi
    have h2 : (JH a 8)[i]? = (JH b 8)[i]? := by rw [h]
    simp only [JH, toStr, List.map_map, List.getElem?_map, List.getElem?_range hi, Option.map_some, Function.comp, Option.some.injEq] at h2
    have h3 := congrArg (fun u : UInt8 => (u.toNat : Int)) h2
    simp only [JaD] at h3
    exact h3
  have e : ∀ (n : Int) (i : Nat), 0 ≤ n → n ≤ 1099511627776 → J3q n i = n / (2 ^ (8 * i)) % 256 := by
    intro n i h0 h1
    show ((IntKind.wrap .u64 n).fdiv (2 ^ (8 * i))) % 256 = _
    rw [Int.fdiv_eq_ediv_of_nonneg _ (Int.le_of_lt (Int.pow_pos (by decide))), J7u h0 (by omega)]
  have k0 := key 0 (by omega); have k1 := key 1 (by omega); have k2 := key 2 (by omega); have k3 := key 3 (by omega); have k4 := key 4 (by omega); have k5 := key 5 (by omega)
  rw [e _ _ ha ha2, e _ _ hb hb2] at k0 k1 k2 k3 k4 k5
  simp only [Nat.mul_zero, Nat.reduceMul, Int.reducePow] at k0 k1 k2 k3 k4 k5
  omega
theorem JtQ (x : Int) : ∃ k : Nat, J4t .u32 x 15 = (k : Int) ∧ k < 16 := by
  have h : (BitVec.ofInt 32 x &&& BitVec.ofInt 32 15).toNat ≤ 15 := by
    rw [BitVec.toNat_and]
    exact Nat.and_le_right
  refine ⟨(BitVec.ofInt 32 x &&& BitVec.ofInt 32 15).toNat, ?_, by omega⟩
  show (((BitVec.ofInt 32 x &&& BitVec.ofInt 32 15).toNat : Nat) : Int) % 4294967296 = _
  omega
theorem Jkz : ∃ v, J2t = some v := by
  have inner : ∀ (k : Nat) (b0 b1 : Vector Int 16), k < 16 → ∀ r : Int, ∃ o, J6t k k b0 b1 (r, 0) = some o ∧ ∃ v, o = .inl (((k + 1 : Nat) : Int), v) := by
    intro k b0 b1 hk r
    refine J1i (f := fun s : Int × Int => J0F k k b0 b1 s.1 s.2) (fun s => ∃ j : Nat, s.2 = j ∧ j ≤ 4) (fun s => (4 - s.2).toNat) _ (fun s ⟨j, hj, h4⟩ => ?_) (r, 0) ⟨0, rfl, by omega⟩
    obtain ⟨x, j'⟩ := s
    simp only at hj
    subst hj
    by_cases hlt : j < 4
    · left
      have e1 : ((j : Nat) : Int) < 4 := by omega
      have e2 : J8p .u32 x 1 = some (x.fdiv (2 ^ (min (1 : Int).toNat IntKind.u32.bits))) := rfl
      by_cases hb : J4t .u32 x 1 = 1
      · exact ⟨⟨_, ((j + 1 : Nat) : Int)⟩, by simp only [J0F, e1, decide_true, if_true, hb, beq_self_eq_true, e2, Option.bind_some, J1l (show j < 1000000 by omega)]; rfl, ⟨j + 1, rfl, by omega⟩, by simp; omega⟩
      · have e3 : (J4t .u32 x 1 == 1) = false := by simpa using hb
        exact ⟨⟨_, ((j + 1 : Nat) : Int)⟩, by simp only [J0F, e1, decide_true, if_true, e3, Bool.false_eq_true, if_false, e2, Option.bind_some, J1l (show j < 1000000 by omega)]; rfl, ⟨j + 1, rfl, by omega⟩, by simp; omega⟩
    · right
      have e1 : ¬ ((j : Nat) : Int) < 4 := by omega
      exact ⟨.inl (((k + 1 : Nat) : Int), J7s b1 k x), by simp only [J0F, e1, decide_false, Bool.false_eq_true, if_false, J3B, J3A, J6L hk, J2G _ k hk, Option.bind_some, Option.map_some, J1l (show k < 1000000 by omega)], _, rfl⟩
  obtain ⟨v, hv, _⟩ := J1i (f := fun s : Int × Vector Int 16 => J0Y (Vector.replicate 16 0) s.1 s.2) (fun s => ∃ j : Nat, s.1 = j ∧ j ≤ 16) (fun s => (16 - s.1).toNat) (fun _ => True) (fun s ⟨j, hj, h4⟩ => by
    obtain ⟨j', b1⟩ := s
    simp only at hj
    subst hj
    by_cases hlt : j < 16
    · left
      have e1 : ((j : Nat) : Int) < 16 := by omega
      obtain ⟨o, ho, v, rfl⟩ := inner j (Vector.replicate 16 0) b1 hlt (IntKind.wrap .u32 (j : Int))
      exact ⟨⟨((j + 1 : Nat) : Int), v⟩, by simp only [J0Y, e1, decide_true, if_true]; exact ho, ⟨j + 1, rfl, by omega⟩, by simp; omega⟩
    · right
      have e1 : ¬ ((j : Nat) : Int) < 16 := by omega
      exact ⟨b1, by simp only [J0Y, e1, decide_false, Bool.false_eq_true, if_false, J3y, Option.map_some], trivial⟩) (0, Vector.replicate 16 0) ⟨0, rfl, by omega⟩
  exact ⟨v, hv⟩
theorem J6K {l : List UInt8} {k : Nat} (h : k < l.length) : Jbq l (k : Int) = some ((l[k]).toNat : Int) := by
  have e : (0 : Int) ≤ k := by omega
  simp [Jbq, e, h]
theorem Jli (l : List UInt8) (hl : l.length ≤ 1000) : ∃ r, J1X l = some r := by
  obtain ⟨v, hv⟩ := Jkz
  obtain ⟨r, hr, _⟩ := J1i (f := fun s : Int × Int => J1P l (l.length : Int) v s.1 s.2) (fun s => ∃ j : Nat, s.2 = j ∧ j ≤ l.length) (fun s => (l.length - s.2).toNat) (fun _ => True) (fun s ⟨j, hj, h4⟩ => by
    obtain ⟨x, j'⟩ := s
    simp only at hj
    subst hj
    by_cases hlt : j < l.length
    · left
      have e1 : ((j : Nat) : Int) < (l.length : Int) := by omega
      have e2 : ∀ z : Int, J8p .u32 z 4 = some (z.fdiv (2 ^ (min (4 : Int).toNat IntKind.u32.bits))) := fun _ => rfl
      have e3 : ∀ z : Int, ∃ y, inb 16 (J4t .u32 z 15) = some () ∧ J5i v (J4t .u32 z 15) = some y := by
        intro z
        obtain ⟨k, hk, hk2⟩ := JtQ z
        rw [hk]
        exact ⟨_, J6L hk2, J2G _ k hk2⟩
      obtain ⟨y1, a1, a2⟩ := e3 (J56 .u32 x (IntKind.wrap .u32 (((l[j]).toNat : Nat) : Int)))
      obtain ⟨y2, a3, a4⟩ := e3 (J56 .u32 ((J56 .u32 x (IntKind.wrap .u32 (((l[j]).toNat : Nat) : Int))).fdiv (2 ^ (min (4 : Int).toNat IntKind.u32.bits))) y1)
      exact ⟨⟨_, ((j + 1 : Nat) : Int)⟩, by simp only [J1P, e1, decide_true, if_true, J6K hlt, Option.bind_some, e2, a1, a2, a3, a4, J1l (show j < 1000000 by omega)]; rfl, ⟨j + 1, rfl, by omega⟩, by simp; omega⟩
    · right
      have e1 : ¬ ((j : Nat) : Int) < (l.length : Int) := by omega
      exact ⟨_, by simp only [J1P, e1, decide_false, Bool.false_eq_true, if_false, J5u, Option.map_some]; rfl, trivial⟩) (4294967295, 0) ⟨0, rfl, by omega⟩
  exact ⟨r, by unfold J1X; rw [hv]; exact hr⟩
theorem J85 (l : List UInt8) (n : Int) {k : Nat} (h1 : 1 ≤ k) (h8 : k ≤ 8) (hl : l.length ≤ 1000) : J4S l n (k : Int) = some (l ++ JH n k) := by
  have e1 : ¬ ((k : Int) < 1 ∨ 8 < (k : Int)) := by omega
  have e2 : l.length + 8 ≤ 140737488355328 := by omega
  show Jj0 l n k = _
  rw [Jj0, if_neg e1, if_pos e2]
  simp
theorem JcF {a b : List UInt8} (ha : a.length ≤ 1000) (hb : b.length ≤ 1000) : J37 a b = some (a ++ b) := by
  have e : a.length + b.length ≤ 4611686018427387904 := by omega
  simp [J37, e]
theorem Jba {n : Int} (h0 : 0 ≤ n) (h1 : n ≤ 1000) : J38 [0] n = some (List.replicate n.toNat 0) := by
  show Jj3 [0] n = _
  have e : (0 : Int) ≤ n ∧ n ≤ 9223372036854775807 ∧ ([0] : List UInt8).length * n.toNat ≤ 140737488355328 := by
    refine ⟨h0, by omega, ?_⟩
    simp; omega
  rw [Jj3, if_pos e]
  have : ∀ k : Nat, (List.replicate k ([0] : List UInt8)).flatten = List.replicate k 0 := by
    intro k
    induction k with
    | zero => rfl
    | succ k ih => rw [List.replicate_succ, List.flatten_cons, ih]; rfl
  rw [this]
theorem JnI (b : T_page_builder) (c : J5) (hc : c.Data.length ≤ 12) (hb : b.s_.length ≤ 300) : ∃ t, J1J b c = some ⟨b.s_ ++ t⟩ ∧ t.length = 13 := by
  have go : ∀ x : Int, ∃ t, J1n x b c = some ⟨b.s_ ++ t⟩ ∧ t.length = 13 := by
    intro x
    have e0 : IntKind.wrap .i64 (12 - ((c.Data.length : Nat) : Int)) = ((12 - c.Data.length : Nat) : Int) := by rw [J05 (by omega) (by omega)]; omega
    have e1 := J85 b.s_ x (k := 1) (by omega) (by omega) (by omega)
    have e2 : J37 (b.s_ ++ JH x 1) c.Data = some (b.s_ ++ JH x 1 ++ c.Data) := JcF (by rw [List.length_append, JG]; omega) (by omega)
    have e3 := Jba (n := ((12 - c.Data.length : Nat) : Int)) (by omega) (by omega)
    have e4 : J37 (b.s_ ++ JH x 1 ++ c.Data) (List.replicate (((12 - c.Data.length : Nat) : Int)).toNat 0) = some (b.s_ ++ JH x 1 ++ c.Data ++ List.replicate (((12 - c.Data.length : Nat) : Int)).toNat 0) := JcF (by simp only [List.length_append, JG]; omega) (by simp; omega)
    refine ⟨JH x 1 ++ c.Data ++ List.replicate (((12 - c.Data.length : Nat) : Int)).toNat 0, ?_, ?_⟩
    · unfold J1n
      rw [show (1 : Int) = ((1 : Nat) : Int) by rfl, e1, Option.bind_some, e2, Option.bind_some, e0, e3, Option.bind_some, e4, Option.bind_some]
      simp only [List.append_assoc]
    · simp only [List.length_append, JG, List.length_replicate]; omega
  unfold J1J
  split
  · exact go _
  · exact go _
structure JnQ (p : T_api_Page) (r : List UInt8 × Int) : Prop where
  ok : r.2 = 0
  len : r.1.length = 256
  head : r.1.take 8 = JH p.LSN 8
  tail : r.1.drop 248 = JH p.LSN 8
  id : (r.1.drop 8).take 4 = JH p.ID 4
theorem Jjo (p : T_api_Page) : ∃ b, J4o p = some b ∧ (b = true → ∀ (i : Nat) (h : i < 16), (p.Cells[i]).Data.length ≤ 12) ∧ ((∀ (i : Nat) (h : i < 16), J3Y p.LSN p.Cells[i]) → b = true) := by
  refine J1i (f := fun s : Int => J0r p.Cells p s) (fun s => ∃ j : Nat, s = j ∧ j ≤ 16 ∧ ∀ (i : Nat) (h : i < 16), i < j → (p.Cells[i]).Data.length ≤ 12) (fun s => (16 - s).toNat)
    (fun b => (b = true → ∀ (i : Nat) (h : i < 16), (p.Cells[i]).Data.length ≤ 12) ∧ ((∀ (i : Nat) (h : i < 16), J3Y p.LSN p.Cells[i]) → b = true)) (fun s ⟨j, hj, h4, hc⟩ => ?_) 0 ⟨0, rfl, by omega, fun i h hh => by omega⟩
  subst hj
  by_cases hlt : j < 16
  · have e1 : ((j : Nat) : Int) < 16 := by omega
    have e2 := J2G p.Cells j hlt
    have e3 := J1l (show j < 1000000 by omega)
    have bad : ¬ J3Y p.LSN p.Cells[j] → (∀ (i : Nat) (h : i < 16), J3Y p.LSN p.Cells[i]) → false = true := fun h1 h2 => (h1 (h2 j hlt)).elim
    by_cases h12 : (((p.Cells[j]).Data.length : Nat) : Int) > 12
    · right
      exact ⟨false, by simp only [J0r, e1, decide_true, if_true, e2, Option.bind_some, h12], fun h => (by cases h), bad fun h => by have := h.1; omega⟩
    · have nxt : ∀ (i : Nat) (h : i < 16), i < j + 1 → (p.Cells[i]).Data.length ≤ 12 := by
        intro i hi hij
        by_cases hh : i < j
        · exact hc i hi hh
        · obtain rfl : i = j := by omega
          omega
      by_cases hs : (p.Cells[j]).Set = true
      · by_cases hl : p.LSN = 0
        · right
          exact ⟨false, by simp only [J0r, e1, decide_true, if_true, e2, Option.bind_some, h12, decide_false, Bool.false_eq_true, if_false, hs, hl, beq_self_eq_true], fun h => (by cases h), bad fun h => h.2.2 hs hl⟩
        · left
          have e4 : (p.LSN == 0) = false := by simpa using hl
          exact ⟨((j + 1 : Nat) : Int), by simp only [J0r, e1, decide_true, if_true, e2, Option.bind_some, h12, decide_false, Bool.false_eq_true, if_false, hs, e4, e3], ⟨j + 1, rfl, by omega, nxt⟩, by omega⟩
      · have hs' : (p.Cells[j]).Set = false := by simpa using hs
        by_cases hd : (p.Cells[j]).Data = []
        · left
          exact ⟨((j + 1 : Nat) : Int), by simp only [J0r, e1, decide_true, if_true, e2, Option.bind_some, h12, decide_false, Bool.false_eq_true, if_false, hs', hd, beq_self_eq_true, e3]; rfl, ⟨j + 1, rfl, by omega, nxt⟩, by omega⟩
        · right
          have e4 : ((p.Cells[j]).Data == []) = false := by simpa using hd
          exact ⟨false, by simp only [J0r, e1, decide_true, if_true, e2, Option.bind_some, h12, decide_false, Bool.false_eq_true, if_false, hs', e4], fun h => (by cases h), bad fun h => hd (h.2.1 hs')⟩
  · right
    have e1 : ¬ ((j : Nat) : Int) < 16 := by omega
    exact ⟨true, by simp only [J0r, e1, decide_false, Bool.false_eq_true, if_false, J6a, Option.map_some], fun _ i h => hc i h (by omega), fun _ => rfl⟩
end Go.Am
end
section
namespace Go.Am
theorem Jmu {σ ρ : Type} {f g : σ → Option (σ ⊕ ρ)} (I : σ → Prop) (h1 : ∀ s, I s → f s = g s) (h2 : ∀ s s', I s → f s = some (.inl s') → I s') {s : σ} (hs : I s) : JQ f s = JQ g s := by
  have key : ∀ (f g : σ → Option (σ ⊕ ρ)), (∀ s, I s → f s = g s) → (∀ s s', I s → f s = some (.inl s') → I s') → ∀ r s, I s → JQ f s = some r → JQ g s = some r := by
    intro f g h1 h2 r s hs h
    exact J3l (P := fun s r => I s → JQ g s = some r) (fun s r e hs => J2m ((h1 s hs) ▸ e)) (fun s s' r e ih hs => (J34 ((h1 s hs) ▸ e)).trans (ih (h2 s s' hs e))) h hs
  cases hf : JQ f s with
  | some r => exact (key f g h1 h2 r s hs hf).symm
  | none =>
    cases hg : JQ g s with
    | none => rfl
    | some r => rw [key g f (fun s hs => (h1 s hs).symm) (fun s s' hs e => h2 s s' hs ((h1 s hs).trans e)) r s hs hg] at hf; cases hf
theorem JoK {σ ρ τ ρ' : Type} {f : σ → Option (σ ⊕ ρ)} {g : τ → Option (τ ⊕ ρ')} (R : σ → τ → Prop) (K : ρ → ρ' → Prop)
    (h1 : ∀ s t s', R s t → f s = some (.inl s') → ∃ t', g t = some (.inl t') ∧ R s' t') (h2 : ∀ s t r, R s t → f s = some (.inr r) → ∃ r', g t = some (.inr r') ∧ K r r')
    {s : σ} {t : τ} {r : ρ} (hR : R s t) (h : JQ f s = some r) : ∃ r', JQ g t = some r' ∧ K r r' := by
  exact J3l (P := fun s r => ∀ t, R s t → ∃ r', JQ g t = some r' ∧ K r r')
    (fun s r e t ht => by obtain ⟨r', a, b⟩ := h2 s t r ht e; exact ⟨r', J2m a, b⟩)
    (fun s s' r e ih t ht => by obtain ⟨t', a, b⟩ := h1 s t s' ht e; obtain ⟨r', c, d⟩ := ih t' b; exact ⟨r', (J34 a).trans c, d⟩) h t hR
theorem J8y {a b : List UInt8} (h : a.length + b.length ≤ 1000000000) : J37 a b = some (a ++ b) := by
  have e : a.length + b.length ≤ 4611686018427387904 := by omega
  simp [J37, e]
theorem Jl6 {n : Int} (h1 : 0 ≤ n) (h2 : n < 1000000) : IntKind.wrap .u64 (IntKind.wrap .i64 n) = n := by
  rw [J05 (by omega) (by omega), J7u h1 (by omega)]
theorem J8X (l : List UInt8) (n : Int) {k : Nat} (h1 : 1 ≤ k) (h8 : k ≤ 8) (hl : l.length ≤ 1000000) : J2u l n (k : Int) = some (l ++ JH n k) := by
  have c1 : ¬ (k : Int) < 1 := by omega
  have c2 : ¬ (k : Int) > 8 := by omega
  have key : ∀ (m j : Nat), j + m = k → JQ (fun s : List UInt8 × Int => J8d n k s.1 s.2) (l ++ JH n j, (j : Int)) = some (l ++ JH n k) := by
    intro m
    induction m with
    | zero =>
      intro j hj
      obtain rfl : j = k := by omega
      have e1 : ¬ ((j : Nat) : Int) < (j : Int) := by omega
      refine J2m ?_
      simp only [J8d, e1, decide_false, Bool.false_eq_true, if_false, JdQ, Option.map_some]
    | succ m ih =>
      intro j hj
      have e1 : ((j : Nat) : Int) < (k : Int) := by omega
      have e2 : IntKind.wrap .u64 (IntKind.wrap .i64 (8 * (j : Int))) = 8 * (j : Int) := Jl6 (by omega) (by omega)
      have e3 : J8p .u64 (IntKind.wrap .u64 n) (8 * (j : Int)) = some ((IntKind.wrap .u64 n).fdiv (2 ^ (8 * j))) := by
        simp only [J8p]
        rw [if_neg (by omega)]
        have : min (8 * (j : Int)).toNat IntKind.u64.bits = 8 * j := by
          rw [show (8 * (j : Int)).toNat = 8 * j by omega]
          exact Nat.min_eq_left (by show 8 * j ≤ 64; omega)
        rw [this]
      have e4 : toStr [IntKind.wrap .u8 ((IntKind.wrap .u64 n).fdiv (2 ^ (8 * j)))] = [UInt8.ofNat (J3q n j).toNat] := rfl
      have e5 : J37 (l ++ JH n j) [UInt8.ofNat (J3q n j).toNat] = some (l ++ JH n (j + 1)) := by
        rw [J8y (by rw [List.length_append, JG]; simp; omega), JjG, List.append_assoc]
      refine (J34 (s' := (l ++ JH n (j + 1), ((j + 1 : Nat) : Int))) ?_).trans (ih (j + 1) (by omega))
      simp only [J8d, e1, decide_true, if_true, e2, e3, Option.bind_some, e4, e5, J1l (show j < 1000000 by omega)]
  unfold J2u
  simp only [c1, c2, decide_false, Bool.false_eq_true, if_false]
  have h0 := key k 0 (by omega)
  have e : JH n 0 = [] := rfl
  rw [e, List.append_nil] at h0
  exact h0
theorem Jj1 (s : List UInt8) (at_ : Int) {k : Int} (h1 : 1 ≤ k) (h8 : k ≤ 8) : J4R s at_ k = J0o s at_ k := by
  have key : Je1 s at_ k (0, 0) = Ja1 s at_ k (0, 0) := by
    refine Jmu (fun q : Int × Int => 0 ≤ q.2 ∧ q.2 ≤ k) (fun q ⟨h0, h2⟩ => ?_) (fun q q' ⟨h0, h2⟩ e => ?_) ⟨by simp, by simp; omega⟩
    · have e2 : IntKind.wrap .u64 (IntKind.wrap .i64 (8 * q.2)) = 8 * q.2 := Jl6 (by omega) (by omega)
      have e3 : IntKind.wrap .i64 (8 * q.2) = 8 * q.2 := J05 (by omega) (by omega)
      have e4 : IntKind.wrap .u64 (8 * q.2) = 8 * q.2 := J7u (by omega) (by omega)
      simp only [Ja4, J0t, e3, e4]
      rfl
    · simp only [Ja4] at e
      split at e
      · rename_i hlt
        simp only [decide_eq_true_eq] at hlt
        simp only [Option.bind_eq_some_iff, Option.some.injEq, Sum.inl.injEq] at e
        obtain ⟨_, _, _, _, rfl⟩ := e
        have e3 : IntKind.wrap .i64 (q.2 + 1) = q.2 + 1 := J05 (by omega) (by omega)
        simp only [e3]
        omega
      · simp [Je4] at e
  unfold J4R J0o
  rw [key]
def P32 : Nat := 2197175160
def gb (c : Nat) : Nat := if c % 2 = 1 then c / 2 ^^^ P32 else c / 2
def gN : Nat → Nat → Nat
  | 0, c => c
  | j + 1, c => gN j (gb c)
def sl (b : Nat) : Nat := if b = 1 then P32 else 0
theorem JhK (c : Nat) : gb c = c / 2 ^^^ sl (c % 2) := by
  unfold gb sl
  split
  · rfl
  · rw [Nat.xor_zero]
theorem Jt1 (x y : Nat) : gb (x ^^^ y) = gb x ^^^ gb y := by
  have e1 : (x ^^^ y) / 2 = x / 2 ^^^ y / 2 := by have := @Nat.xor_div_two_pow x y 1; simpa using this
  have e2 : (x ^^^ y) % 2 = x % 2 ^^^ y % 2 := by have := @Nat.xor_mod_two_pow x y 1; simpa using this
  simp only [JhK, e1, e2]
  have e3 : sl (x % 2 ^^^ y % 2) = sl (x % 2) ^^^ sl (y % 2) := by
    rcases Nat.mod_two_eq_zero_or_one x with h | h <;> rcases Nat.mod_two_eq_zero_or_one y with h' | h' <;> rw [h, h'] <;> decide
  rw [e3]
  ac_rfl
theorem Jii : ∀ (j x y : Nat), gN j (x ^^^ y) = gN j x ^^^ gN j y
  | 0, _, _ => rfl
  | j + 1, x, y => by simp only [gN]; rw [Jt1, Jii j]
theorem Joi : ∀ (i j x : Nat), gN (i + j) x = gN j (gN i x)
  | 0, j, x => by simp [gN]
  | i + 1, j, x => by rw [Nat.succ_add]; simp only [gN]; exact Joi i j _
theorem JmR (c : Nat) : gN 4 c = c / 16 ^^^ (sl (c / 8 % 2) ^^^ gN 1 (sl (c / 4 % 2)) ^^^ gN 2 (sl (c / 2 % 2)) ^^^ gN 3 (sl (c % 2))) := by
  have s1 : gN 4 c = gN 3 (c / 2) ^^^ gN 3 (sl (c % 2)) := by
    rw [← Jii, ← JhK]; rfl
  have s2 : gN 3 (c / 2) = gN 2 (c / 4) ^^^ gN 2 (sl (c / 2 % 2)) := by
    rw [← Jii, show c / 4 = c / 2 / 2 by omega, ← JhK]; rfl
  have s3 : gN 2 (c / 4) = gN 1 (c / 8) ^^^ gN 1 (sl (c / 4 % 2)) := by
    rw [← Jii, show c / 8 = c / 4 / 2 by omega, ← JhK]; rfl
  have s4 : gN 1 (c / 8) = c / 16 ^^^ sl (c / 8 % 2) := by
    rw [show c / 16 = c / 8 / 2 by omega, ← JhK]; rfl
  rw [s1, s2, s3, s4]
  ac_rfl
theorem Jpi (c : Nat) : gN 4 c = c / 16 ^^^ gN 4 (c % 16) := by
  rw [JmR c, JmR (c % 16)]
  have a0 : c % 16 / 16 = 0 := by omega
  have a1 : c % 16 / 8 % 2 = c / 8 % 2 := by omega
  have a2 : c % 16 / 4 % 2 = c / 4 % 2 := by omega
  have a3 : c % 16 / 2 % 2 = c / 2 % 2 := by omega
  have a4 : c % 16 % 2 = c % 2 := by omega
  rw [a0, a1, a2, a3, a4, Nat.zero_xor]
theorem JlP : P32 < 2 ^ 32 := by decide
theorem Jnm {c : Nat} (h : c < 2 ^ 32) : gb c < 2 ^ 32 := by
  unfold gb
  split
  · exact Nat.xor_lt_two_pow (by omega) JlP
  · omega
theorem Jfh : ∀ {j c : Nat}, c < 2 ^ 32 → gN j c < 2 ^ 32
  | 0, _, h => h
  | j + 1, _, h => Jfh (j := j) (Jnm h)
theorem J9v (n : Nat) (h : n < 2 ^ 32) : IntKind.wrap .u32 (n : Int) = (n : Int) := by
  rw [show IntKind.wrap .u32 (n : Int) = (n : Int) % 4294967296 from rfl]; omega
theorem Jjf {n : Nat} (h : n < 2 ^ 32) : (BitVec.ofInt 32 (n : Int)).toNat = n := by
  rw [BitVec.toNat_ofInt]; omega
theorem Jbj {x y : Nat} (hx : x < 2 ^ 32) (hy : y < 2 ^ 32) : J56 .u32 (x : Int) (y : Int) = ((x ^^^ y : Nat) : Int) := by
  show IntKind.wrap .u32 (((BitVec.ofInt 32 (x : Int) ^^^ BitVec.ofInt 32 (y : Int)).toNat : Nat) : Int) = _
  rw [BitVec.toNat_xor, Jjf hx, Jjf hy, J9v _ (Nat.xor_lt_two_pow hx hy)]
theorem JlX {x : Nat} (hx : x < 2 ^ 32) (k : Nat) (hk : k ≤ 20) : J4t .u32 (x : Int) ((2 ^ k - 1 : Nat) : Int) = ((x % 2 ^ k : Nat) : Int) := by
  show IntKind.wrap .u32 (((BitVec.ofInt 32 (x : Int) &&& BitVec.ofInt 32 ((2 ^ k - 1 : Nat) : Int)).toNat : Nat) : Int) = _
  have h2 : 2 ^ k - 1 < 2 ^ 32 := by
    have : (2 : Nat) ^ k ≤ 2 ^ 20 := Nat.pow_le_pow_right (by omega) hk
    omega
  rw [BitVec.toNat_and, Jjf hx, Jjf h2, Nat.and_two_pow_sub_one_eq_mod, J9v _ (Nat.lt_of_le_of_lt (Nat.mod_le _ _) hx)]
theorem JsZ {x : Nat} (hx : x < 2 ^ 32) : J4t .u32 (x : Int) 1 = ((x % 2 : Nat) : Int) := JlX hx 1 (by omega)
theorem Jtd {x : Nat} (hx : x < 2 ^ 32) : J4t .u32 (x : Int) 15 = ((x % 16 : Nat) : Int) := JlX hx 4 (by omega)
theorem JsG (x : Nat) : J8p .u32 (x : Int) 1 = some ((x / 2 : Nat) : Int) := by
  show some ((x : Int).fdiv 2) = _
  rw [Int.fdiv_eq_ediv_of_nonneg _ (by omega)]; simp
theorem Juv (x : Nat) : J8p .u32 (x : Int) 4 = some ((x / 16 : Nat) : Int) := by
  show some ((x : Int).fdiv 16) = _
  rw [Int.fdiv_eq_ediv_of_nonneg _ (by omega)]; simp
def JgP : List UInt8 → Nat → Nat
  | [], c => c
  | b :: r, c => JgP r (gN 8 (c ^^^ b.toNat))
theorem J9o (b : UInt8) : b.toNat < 2 ^ 32 := by have := UInt8.toNat_lt b; omega
theorem Jn4 : ∀ {l : List UInt8} {c : Nat}, c < 2 ^ 32 → JgP l c < 2 ^ 32
  | [], _, h => h
  | b :: r, _, h => Jn4 (l := r) (Jfh (Nat.xor_lt_two_pow h (J9o b)))
def crc (l : List UInt8) : Nat := JgP l 4294967295 ^^^ 4294967295
theorem JlR (l : List UInt8) : crc l < 2 ^ 32 := Nat.xor_lt_two_pow (Jn4 (by decide)) (by decide)
theorem Jlx {x : Nat} (hx : x < 2 ^ 32) : Jjd .u32 (x : Int) = ((x ^^^ 4294967295 : Nat) : Int) := by
  show IntKind.wrap .u32 (((BitVec.ofInt 32 4294967295 ^^^ BitVec.ofInt 32 (x : Int)).toNat : Nat) : Int) = _
  rw [BitVec.toNat_xor, Jjf hx, show (4294967295 : Int) = ((4294967295 : Nat) : Int) by rfl, Jjf (by decide), Nat.xor_comm, J9v _ (Nat.xor_lt_two_pow hx (by decide))]
theorem Jn9 (l : List UInt8) (hl : l.length ≤ 100000) : Jc9 l = some ((crc l : Nat) : Int) := by
  have inner : ∀ (x : Nat) (m k c : Nat), c < 2 ^ 32 → x < 200000 → k + m = 8 → JQ (fun s : Int × Int => J8b l (x : Int) s.1 s.2) ((c : Int), (k : Int)) = some (.inl (((gN m c : Nat) : Int), ((x + 1 : Nat) : Int))) := by
    intro x m
    induction m with
    | zero =>
      intro k c hc hx hk
      obtain rfl : k = 8 := by omega
      refine J2m ?_
      have e1 : ¬ (((8 : Nat) : Nat) : Int) < 8 := by omega
      simp only [J8b, e1, decide_false, Bool.false_eq_true, if_false, JdX, Option.map_some, J1l (show x < 1000000 by omega), gN]
    | succ m ih =>
      intro k c hc hx hk
      have e1 : ((k : Nat) : Int) < 8 := by omega
      refine (J34 (s' := (((gb c : Nat) : Int), ((k + 1 : Nat) : Int))) ?_).trans (ih (k + 1) (gb c) (Jnm hc) hx (by omega))
      have e2 := JsZ hc
      simp only [J8b, e1, decide_true, if_true, e2, JsG, Option.bind_some, J9Z, J1l (show k < 1000000 by omega)]
      unfold gb
      by_cases hb : c % 2 = 1
      · simp only [hb, if_true, Int.natCast_one, beq_self_eq_true]
        rw [show (2197175160 : Int) = ((P32 : Nat) : Int) by rfl, Jbj (by omega) JlP]
      · have e3 : (((c % 2 : Nat) : Int) == 1) = false := by simp; omega
        simp only [hb, if_false, e3, Bool.false_eq_true]
  have outer : ∀ (m j c : Nat), c < 2 ^ 32 → j + m = l.length → JQ (fun s : Int × Int => J8f l s.1 s.2) ((c : Int), (j : Int)) = some (((JgP (l.drop j) c ^^^ 4294967295 : Nat) : Int)) := by
    intro m
    induction m with
    | zero =>
      intro j c hc hj
      obtain rfl : j = l.length := by omega
      refine J2m ?_
      have e1 : ¬ ((l.length : Nat) : Int) < ((l.length : Nat) : Int) := by omega
      simp only [J8f, e1, decide_false, Bool.false_eq_true, if_false, Je2, Option.map_some, Jlx hc, List.drop_length, JgP]
    | succ m ih =>
      intro j c hc hj
      have hlt : j < l.length := by omega
      have e1 : ((j : Nat) : Int) < ((l.length : Nat) : Int) := by omega
      have hx := Nat.xor_lt_two_pow hc (J9o l[j])
      refine (J34 (s' := (((gN 8 (c ^^^ (l[j]).toNat) : Nat) : Int), ((j + 1 : Nat) : Int))) ?_).trans ((ih (j + 1) _ (Jfh hx) (by omega)).trans ?_)
      · simp only [J8f, e1, decide_true, if_true, J6K hlt, Option.bind_some]
        rw [J9v _ (J9o _), Jbj hc (J9o _)]
        exact inner j 8 0 _ hx (by omega) (by omega)
      · rw [List.drop_eq_getElem_cons hlt]
        rfl
  exact outer l.length 0 4294967295 (by decide) (by omega)
theorem Jig : ∃ v, J2t = some v ∧ ∀ (i : Nat) (h : i < 16), v[i] = ((gN 4 i : Nat) : Int) := by
  have inner : ∀ (k : Nat) (b0 b1 : Vector Int 16), k < 16 → ∀ (m j c : Nat), c < 2 ^ 32 → j + m = 4 → JQ (fun s : Int × Int => J0F k k b0 b1 s.1 s.2) ((c : Int), (j : Int)) = some (.inl (((k + 1 : Nat) : Int), J7s b1 k ((gN m c : Nat) : Int))) := by
    intro k b0 b1 hk m
    induction m with
    | zero =>
      intro j c hc hj
      obtain rfl : j = 4 := by omega
      refine J2m ?_
      have e1 : ¬ (((4 : Nat) : Nat) : Int) < 4 := by omega
      simp only [J0F, e1, decide_false, Bool.false_eq_true, if_false, J3B, J3A, J6L hk, J2G _ k hk, Option.bind_some, Option.map_some, J1l (show k < 1000000 by omega), gN]
    | succ m ih =>
      intro j c hc hj
      have e1 : ((j : Nat) : Int) < 4 := by omega
      refine (J34 (s' := (((gb c : Nat) : Int), ((j + 1 : Nat) : Int))) ?_).trans (ih (j + 1) (gb c) (Jnm hc) (by omega))
      have e2 := JsZ hc
      simp only [J0F, e1, decide_true, if_true, e2, JsG, Option.bind_some, J1l (show j < 1000000 by omega)]
      unfold gb
      by_cases hb : c % 2 = 1
      · simp only [hb, if_true, Int.natCast_one, beq_self_eq_true]
        rw [show (2197175160 : Int) = ((P32 : Nat) : Int) by rfl, Jbj (by omega) JlP]
      · have e3 : (((c % 2 : Nat) : Int) == 1) = false := by simp; omega
        simp only [hb, if_false, e3, Bool.false_eq_true]
  refine J1i (f := fun s : Int × Vector Int 16 => J0Y (Vector.replicate 16 0) s.1 s.2) (fun s => ∃ j : Nat, s.1 = j ∧ j ≤ 16 ∧ ∀ (i : Nat) (h : i < 16), i < j → s.2[i] = ((gN 4 i : Nat) : Int)) (fun s => (16 - s.1).toNat) (fun v => ∀ (i : Nat) (h : i < 16), v[i] = ((gN 4 i : Nat) : Int)) (fun s ⟨j, hj, h4, hv⟩ => ?_) (0, Vector.replicate 16 0) ⟨0, rfl, by omega, fun i h hh => by omega⟩
  obtain ⟨j', b1⟩ := s
  simp only at hj hv
  subst hj
  by_cases hlt : j < 16
  · left
    have e1 : ((j : Nat) : Int) < 16 := by omega
    have ho := inner j (Vector.replicate 16 0) b1 hlt 4 0 j (by omega) (by omega)
    refine ⟨⟨((j + 1 : Nat) : Int), J7s b1 j ((gN 4 j : Nat) : Int)⟩, by simp only [J0Y, e1, decide_true, if_true, J9v j (by omega)]; exact ho, ⟨j + 1, rfl, by omega, fun i h hh => ?_⟩, by simp; omega⟩
    simp only [J7s, Int.toNat_natCast, Vector.getElem_setIfInBounds]
    by_cases hij : j = i
    · subst hij; simp
    · rw [if_neg hij]; exact hv i h (by omega)
  · right
    obtain rfl : j = 16 := by omega
    have e1 : ¬ (((16 : Nat) : Nat) : Int) < 16 := by omega
    exact ⟨b1, by simp only [J0Y, e1, decide_false, Bool.false_eq_true, if_false, J3y, Option.map_some], fun i h => hv i h h⟩
theorem Jlh (l : List UInt8) (hl : l.length ≤ 100000) : J1X l = some ((crc l : Nat) : Int) := by
  obtain ⟨v, hv, ht⟩ := Jig
  have outer : ∀ (m j c : Nat), c < 2 ^ 32 → j + m = l.length → JQ (fun s : Int × Int => J1P l (l.length : Int) v s.1 s.2) ((c : Int), (j : Int)) = some (((JgP (l.drop j) c ^^^ 4294967295 : Nat) : Int)) := by
    intro m
    induction m with
    | zero =>
      intro j c hc hj
      obtain rfl : j = l.length := by omega
      refine J2m ?_
      have e1 : ¬ ((l.length : Nat) : Int) < ((l.length : Nat) : Int) := by omega
      simp only [J1P, e1, decide_false, Bool.false_eq_true, if_false, J5u, Option.map_some, Jlx hc, List.drop_length, JgP]
    | succ m ih =>
      intro j c hc hj
      have hlt : j < l.length := by omega
      have e1 : ((j : Nat) : Int) < ((l.length : Nat) : Int) := by omega
      have hx := Nat.xor_lt_two_pow hc (J9o l[j])
      have step : ∀ x : Nat, x < 2 ^ 32 → inb 16 (J4t .u32 (x : Int) 15) = some () ∧ J5i v (J4t .u32 (x : Int) 15) = some ((gN 4 (x % 16) : Nat) : Int) ∧ J56 .u32 ((x / 16 : Nat) : Int) ((gN 4 (x % 16) : Nat) : Int) = ((gN 4 x : Nat) : Int) := by
        intro x hx
        have h16 : x % 16 < 16 := by omega
        rw [Jtd hx]
        refine ⟨J6L h16, by rw [J2G _ _ h16, ht _ h16], ?_⟩
        rw [Jbj (by omega) (Jfh (by omega)), ← Jpi]
      refine (J34 (s' := (((gN 8 (c ^^^ (l[j]).toNat) : Nat) : Int), ((j + 1 : Nat) : Int))) ?_).trans ((ih (j + 1) _ (Jfh hx) (by omega)).trans ?_)
      · obtain ⟨a1, a2, a3⟩ := step _ hx
        obtain ⟨b1, b2, b3⟩ := step (gN 4 (c ^^^ (l[j]).toNat)) (Jfh hx)
        simp only [J1P, e1, decide_true, if_true, J6K hlt, Option.bind_some, J9v _ (J9o l[j]), Jbj hc (J9o l[j]), Juv, a1, a2, a3, b1, b2, b3, J1l (show j < 1000000 by omega)]
        rw [← Joi 4 4]
      · rw [List.drop_eq_getElem_cons hlt]
        rfl
  unfold J1X
  rw [hv]
  exact outer l.length 0 4294967295 (by decide) (by omega)
end Go.Am
end
section
namespace Go.Am
theorem JmI (p : T_api_Page) (hc : ∀ (i : Nat) (h : i < 16), (p.Cells[i]).Data.length ≤ 12) (h0 : List UInt8) (hh : h0 = JH p.LSN 8 ++ JH p.ID 4) :
    ∃ r, J8F p.Cells p (0, ⟨h0⟩) = some r ∧ JnQ p r := by
  refine J1i (f := fun s : Int × T_page_builder => J1Z p.Cells p s.1 s.2) (fun s => ∃ (j : Nat) (t : List UInt8), s.1 = j ∧ j ≤ 16 ∧ s.2.s_ = JH p.LSN 8 ++ JH p.ID 4 ++ t ∧ t.length = 13 * j) (fun s => (16 - s.1).toNat)
    (JnQ p) (fun s ⟨j, t, hj, h4, ht, hl⟩ => ?_) (0, ⟨h0⟩) ⟨0, [], rfl, by omega, by simp [hh], by simp⟩
  obtain ⟨j', b⟩ := s
  simp only at hj ht
  subst hj
  have hbl : b.s_.length = 12 + 13 * j := by rw [ht]; simp only [List.length_append, JG, hl]
  by_cases hlt : j < 16
  · left
    have e1 : ((j : Nat) : Int) < 16 := by omega
    obtain ⟨u, e2, hu⟩ := JnI b p.Cells[j] (hc j hlt) (by omega)
    exact ⟨⟨((j + 1 : Nat) : Int), ⟨b.s_ ++ u⟩⟩, by simp only [J1Z, e1, decide_true, if_true, J2G _ j hlt, Option.bind_some, e2, J1l (show j < 1000000 by omega)], ⟨j + 1, t ++ u, rfl, by omega, by simp only [ht, List.append_assoc], by simp only [List.length_append, hl, hu]; omega⟩, by simp; omega⟩
  · right
    obtain rfl : j = 16 := by omega
    have e1 : ¬ (((16 : Nat) : Nat) : Int) < 16 := by omega
    have a0 : IntKind.wrap .i64 (244 - ((b.s_.length : Nat) : Int)) = 24 := by rw [hbl, J05 (by omega) (by omega)]; omega
    have a1 := Jba (n := 24) (by omega) (by omega)
    have a2 : J37 b.s_ (List.replicate (24 : Int).toNat 0) = some (b.s_ ++ List.replicate (24 : Int).toNat 0) := JcF (by omega) (by simp)
    obtain ⟨r, a3⟩ := Jli (b.s_ ++ List.replicate (24 : Int).toNat 0) (by simp [hbl])
    have a4 := J85 (b.s_ ++ List.replicate (24 : Int).toNat 0) (IntKind.wrap .i64 r) (k := 4) (by omega) (by omega) (by simp [hbl])
    have a5 := J85 (b.s_ ++ List.replicate (24 : Int).toNat 0 ++ JH (IntKind.wrap .i64 r) 4) p.LSN (k := 8) (by omega) (by omega) (by simp [hbl, JG])
    refine ⟨(b.s_ ++ List.replicate (24 : Int).toNat 0 ++ JH (IntKind.wrap .i64 r) 4 ++ JH p.LSN 8, 0), ?_, ?_⟩
    · simp only [J1Z, e1, decide_false, Bool.false_eq_true, if_false, J5Q, a0, a1, a2, a3, Option.bind_some]
      rw [show (4 : Int) = ((4 : Nat) : Int) by rfl, a4, Option.bind_some, show (8 : Int) = ((8 : Nat) : Int) by rfl, a5]
      rfl
    · refine ⟨rfl, by simp [hbl, JG], ?_, ?_, ?_⟩
      · rw [ht]
        simp only [List.append_assoc]
        rw [List.take_append_of_le_length (by rw [JG]; omega), List.take_of_length_le (by rw [JG]; omega)]
      · rw [List.drop_append, List.drop_of_length_le (by simp [hbl, JG]), List.nil_append]
        simp [hbl, JG]
      · rw [ht]
        simp only [List.append_assoc]
        rw [List.drop_append, List.drop_of_length_le (by rw [JG]; omega), List.nil_append, JG, Nat.sub_self, List.drop_zero, List.take_append_of_le_length (by rw [JG]; omega), List.take_of_length_le (by rw [JG]; omega)]
theorem JhB (p : T_api_Page) : ∃ r, J0B p = some r ∧ (J3v p → JnQ p r) := by
  have hp : ∃ b, J1v p = some b ∧ (J3v p → b = true) := by
    unfold J1v J1e
    by_cases h1 : p.ID ≥ 0
    · by_cases h2 : p.ID < 64
      · by_cases h3 : p.LSN ≥ 0
        · exact ⟨decide (p.LSN ≤ 1099511627776), by simp [h1, h2, h3], fun h => by simpa using h.lsn1⟩
        · exact ⟨false, by simp [h1, h2, h3], fun h => (h3 h.lsn0).elim⟩
      · exact ⟨false, by simp [h1, h2], fun h => (h2 h.id1).elim⟩
    · exact ⟨false, by simp [h1], fun h => (h1 h.id0).elim⟩
  obtain ⟨b, e1, hb⟩ := hp
  obtain ⟨d, e2, hd, hd2⟩ := Jjo p
  unfold J0B
  simp only [e1, e2, Option.bind_some]
  cases b with
  | false => exact ⟨_, rfl, fun h => by cases hb h⟩
  | true =>
    cases d with
    | false => exact ⟨_, rfl, fun h => by cases hd2 h.cells⟩
    | true =>
      have a1 := J85 [] p.LSN (k := 8) (by omega) (by omega) (by simp)
      have a2 := J85 ([] ++ JH p.LSN 8) p.ID (k := 4) (by omega) (by omega) (by simp [JG])
      obtain ⟨r, hr, hq⟩ := JmI p (hd rfl) ([] ++ JH p.LSN 8 ++ JH p.ID 4) (by simp)
      refine ⟨r, ?_, fun _ => hq⟩
      simp only [if_true]
      rw [show (8 : Int) = ((8 : Nat) : Int) by rfl, a1, Option.bind_some, show (4 : Int) = ((4 : Nat) : Int) by rfl, a2, Option.bind_some]
      exact hr
theorem Jrx (s : List UInt8) (hs : s.length ≤ 1000) {at_ k : Nat} (h1 : 1 ≤ k) (h8 : k ≤ 8) (ha : at_ ≤ 1000) : ∃ r, J0o s at_ k = some r := by
  have c1 : ¬ ((k : Int) < 1) := by omega
  have c2 : ¬ ((k : Int) > 8) := by omega
  have c3 : ¬ ((at_ : Int) < 0) := by omega
  unfold J0o
  simp only [c1, c2, c3, decide_false, Bool.false_eq_true, if_false]
  by_cases c4 : (at_ : Int) > (s.length : Int)
  · exact ⟨(0, 5), by simp only [c4, decide_true, if_true]⟩
  · have e0 : IntKind.wrap .i64 ((s.length : Int) - at_) = (s.length : Int) - at_ := J05 (by omega) (by omega)
    simp only [c4, decide_false, Bool.false_eq_true, if_false, e0]
    by_cases c5 : (s.length : Int) - at_ < k
    · exact ⟨(0, 5), by simp only [c5, decide_true, if_true]⟩
    · simp only [c5, decide_false, Bool.false_eq_true, if_false]
      obtain ⟨r, hr, _⟩ := J1i (f := fun q : Int × Int => J0t s at_ k q.1 q.2) (fun q => ∃ j : Nat, q.2 = j ∧ j ≤ k) (fun q => (k - q.2).toNat) (fun _ => True) (fun q ⟨j, hj, h4⟩ => by
        obtain ⟨x, j'⟩ := q
        simp only at hj
        subst hj
        by_cases hlt : j < k
        · left
          have e1 : ((j : Nat) : Int) < (k : Int) := by omega
          have e2 : IntKind.wrap .i64 ((at_ : Int) + (j : Int)) = ((at_ + j : Nat) : Int) := by rw [J05 (by omega) (by omega)]; omega
          have e3 : IntKind.wrap .i64 (8 * (j : Int)) = ((8 * j : Nat) : Int) := by rw [J05 (by omega) (by omega)]; omega
          have e4 : ∀ z : Int, ∃ y, Jc6 .u64 z ((8 * j : Nat) : Int) = some y := fun z => ⟨_, if_neg (by omega)⟩
          obtain ⟨y, e5⟩ := e4 (IntKind.wrap .u64 (((s[at_ + j]).toNat : Nat) : Int))
          exact ⟨⟨_, ((j + 1 : Nat) : Int)⟩, by simp only [J0t, e1, decide_true, if_true, e2, J6K (show at_ + j < s.length by omega), Option.bind_some, e3, e5, J1l (show j < 1000000 by omega)]; rfl, ⟨j + 1, rfl, by omega⟩, by simp; omega⟩
        · right
          have e1 : ¬ ((j : Nat) : Int) < (k : Int) := by omega
          exact ⟨_, by simp only [J0t, e1, decide_false, Bool.false_eq_true, if_false, J4C, Option.map_some]; rfl, trivial⟩) (0, 0) ⟨0, rfl, by omega⟩
      exact ⟨r, hr⟩
theorem Jdm (s : List UInt8) (hs : s.length ≤ 1000) {at_ : Nat} (ha : at_ < s.length) : J0o s at_ 1 = some (((s[at_]).toNat : Int), 0) := by
  have c3 : ¬ ((at_ : Int) < 0) := by omega
  have c4 : ¬ ((at_ : Int) > (s.length : Int)) := by omega
  have e0 : IntKind.wrap .i64 ((s.length : Int) - at_) = (s.length : Int) - at_ := J05 (by omega) (by omega)
  have c5 : ¬ ((s.length : Int) - at_ < 1) := by omega
  unfold J0o
  simp only [show ¬ ((1 : Int) < 1) by omega, show ¬ ((1 : Int) > 8) by omega, c3, c4, e0, c5, decide_false, Bool.false_eq_true, if_false]
  have hu : (s[at_]).toNat < 256 := UInt8.toNat_lt _
  have w0 : IntKind.wrap .u64 (((s[at_]).toNat : Nat) : Int) = (((s[at_]).toNat : Nat) : Int) := J7u (by omega) (by omega)
  have e2 : IntKind.wrap .i64 ((at_ : Int) + 0) = (at_ : Int) := by rw [J05 (by omega) (by omega)]; omega
  have e3 : Jc6 .u64 (((s[at_]).toNat : Nat) : Int) (IntKind.wrap .i64 (8 * 0)) = some (((s[at_]).toNat : Nat) : Int) := by
    rw [show IntKind.wrap .i64 (8 * 0) = 0 by rfl]
    show some (IntKind.wrap .u64 ((((s[at_]).toNat : Nat) : Int) * 2 ^ 0)) = _
    rw [show ((((s[at_]).toNat : Nat) : Int) * 2 ^ 0) = (((s[at_]).toNat : Nat) : Int) by omega, w0]
  have e4 : orI .u64 0 (((s[at_]).toNat : Nat) : Int) = (((s[at_]).toNat : Nat) : Int) := by
    have h2 : (BitVec.ofInt 64 0 ||| BitVec.ofInt 64 (((s[at_]).toNat : Nat) : Int)).toNat = (s[at_]).toNat := by
      rw [show BitVec.ofInt 64 0 = 0#64 by rfl, BitVec.zero_or, BitVec.toNat_ofInt]
      omega
    show IntKind.wrap .u64 (((BitVec.ofInt 64 0 ||| BitVec.ofInt 64 (((s[at_]).toNat : Nat) : Int)).toNat : Nat) : Int) = _
    rw [h2, w0]
  have s0 : J0t s at_ 1 0 0 = some (.inl ((((s[at_]).toNat : Nat) : Int), 1)) := by
    simp only [J0t, show ((0 : Int) < 1) by omega, decide_true, if_true, e2, J6K ha, Option.bind_some, w0, e3, e4, show IntKind.wrap .i64 ((0 : Int) + 1) = 1 by rfl]
  have s1 : J0t s at_ 1 (((s[at_]).toNat : Nat) : Int) 1 = some (.inr ((((s[at_]).toNat : Nat) : Int), 0)) := by
    simp only [J0t, show ¬ ((1 : Int) < 1) by omega, decide_false, Bool.false_eq_true, if_false, J4C, Option.map_some, J05 (show -9223372036854775808 ≤ (((s[at_]).toNat : Nat) : Int) by omega) (by omega)]
  exact (J34 (f := fun q : Int × Int => J0t s at_ 1 q.1 q.2) (s := (0, 0)) s0).trans (J2m s1)
theorem J99 (s : List UInt8) (hs : s.length ≤ 1000) {at_ k : Nat} (h1 : 1 ≤ k) (h8 : k ≤ 8) (ha : at_ ≤ 1000) : ∃ r, JM s at_ k = some r := by
  obtain ⟨r, hr⟩ := Jrx s hs h1 h8 ha
  exact ⟨r.1, by simp [JM, hr]⟩
theorem Jo9 {α : Type} (l : List α) {a b : Nat} (h1 : a ≤ b) (h2 : b ≤ l.length) : J22 l (some (a : Int)) (some (b : Int)) = some ((l.drop a).take (b - a)) := by
  have e1 : (0 : Int) ≤ b ∧ (b : Int) ≤ l.length := by omega
  have e2 : (0 : Int) ≤ a ∧ (a : Int) ≤ b := by omega
  simp only [J22, JeM, JbY, e1, e2, and_self, if_true, Int.toNat_natCast]
theorem Jbm {α : Type} (l : List α) {b : Nat} (h2 : b ≤ l.length) : J22 l none (some (b : Int)) = some (l.take b) := by
  have e1 : (0 : Int) ≤ b ∧ (b : Int) ≤ l.length := by omega
  simp only [J22, JeM, JbY, e1, and_self, if_true, Int.toNat_natCast, List.drop_zero, Nat.sub_zero]
theorem Jdq {α : Type} (l : List α) {a : Nat} (h2 : a ≤ l.length) : J22 l (some (a : Int)) none = some (l.drop a) := by
  have e1 : (0 : Int) ≤ a ∧ (a : Int) ≤ l.length := by omega
  simp only [J22, JeM, JbY, e1, and_self, if_true, Int.toNat_natCast]
  rw [List.take_of_length_le (by simp)]
theorem Jl2 (s : List UInt8) (hs : s.length = 256) : ∃ r, J2Y s = some r := by
  obtain ⟨r1, a1⟩ := J99 s (by omega) (at_ := 8) (k := 4) (by omega) (by omega) (by omega)
  obtain ⟨r2, a2⟩ := J99 s (by omega) (at_ := 0) (k := 8) (by omega) (by omega) (by omega)
  have a1' : JM s 8 4 = some r1 := a1
  have a2' : JM s 0 8 = some r2 := a2
  unfold J2Y
  simp only [a1', a2', Option.bind_some]
  obtain ⟨r, hr, _⟩ := J1i (f := fun q : Int × T_api_Page => J0A s ⟨0, 0, Vector.replicate 16 ⟨false, []⟩⟩ q.1 q.2) (fun q => ∃ j : Nat, q.1 = j ∧ j ≤ 16) (fun q => (16 - q.1).toNat) (fun _ => True) (fun q ⟨j, hj, h4⟩ => by
    obtain ⟨j', p⟩ := q
    simp only at hj
    subst hj
    by_cases hlt : j < 16
    · have e1 : ((j : Nat) : Int) < 16 := by omega
      have e2 : IntKind.wrap .i64 (12 + IntKind.wrap .i64 ((j : Int) * 13)) = ((12 + 13 * j : Nat) : Int) := by
        rw [J05 (n := (j : Int) * 13) (by omega) (by omega), J05 (by omega) (by omega)]; omega
      have hu : (s[12 + 13 * j]'(by omega)).toNat < 256 := UInt8.toNat_lt _
      have e3 : JM s ((12 + 13 * j : Nat) : Int) 1 = some (((s[12 + 13 * j]'(by omega)).toNat : Nat) : Int) := by
        simp only [JM, Jdm s (by omega) (show 12 + 13 * j < s.length by omega), Option.bind_some]
      generalize hv : (s[12 + 13 * j]'(by omega)).toNat = v at e3 hu
      by_cases h255 : v = 255
      · left
        subst h255
        exact ⟨⟨((j + 1 : Nat) : Int), p⟩, by simp only [J0A, e1, decide_true, if_true, e2, e3, Option.bind_some, J1l (show j < 1000000 by omega)]; rfl, ⟨j + 1, rfl, by omega⟩, by simp; omega⟩
      · have e4 : (((v : Nat) : Int) == 255) = false := by simp; omega
        by_cases h12 : ((v : Nat) : Int) > 12
        · right
          exact ⟨_, by simp only [J0A, e1, decide_true, if_true, e2, e3, Option.bind_some, e4, Bool.false_eq_true, if_false, h12]; rfl, trivial⟩
        · left
          have e5 : IntKind.wrap .i64 (((12 + 13 * j : Nat) : Int) + 1) = ((13 + 13 * j : Nat) : Int) := by rw [J05 (by omega) (by omega)]; omega
          have e6 : IntKind.wrap .i64 (((13 + 13 * j : Nat) : Int) + ((v : Nat) : Int)) = ((13 + 13 * j + v : Nat) : Int) := by rw [J05 (by omega) (by omega)]; omega
          have e7 := Jo9 s (a := 13 + 13 * j) (b := 13 + 13 * j + v) (by omega) (by omega)
          exact ⟨⟨((j + 1 : Nat) : Int), _⟩, by simp only [J0A, e1, decide_true, if_true, e2, e3, Option.bind_some, e4, Bool.false_eq_true, if_false, h12, decide_false, e5, e6, e7, J6L hlt, J2G _ j hlt, J1l (show j < 1000000 by omega)]; rfl, ⟨j + 1, rfl, by omega⟩, by simp; omega⟩
    · right
      have e1 : ¬ ((j : Nat) : Int) < 16 := by omega
      exact ⟨_, by simp only [J0A, e1, decide_false, Bool.false_eq_true, if_false, J4y, Option.map_some]; rfl, trivial⟩) (0, ⟨r1, r2, Vector.replicate 16 ⟨false, []⟩⟩) ⟨0, rfl, by omega⟩
  exact ⟨r, hr⟩
end Go.Am
end
section
namespace Go.Am
def blk : List UInt8 := List.replicate 256 0
theorem JrG : blk.length = 256 := by decide +kernel
theorem Jl9 : blk.take 8 = JH 0 8 := by decide +kernel
theorem Jpt : blk.drop 248 = JH 0 8 := by decide +kernel
theorem J81 : J4n = some blk := by
  unfold J4n
  rw [Jba (n := 256) (by omega) (by omega)]
  rfl
theorem Jnx (x : List UInt8) (hx : x.length = 256) : ∃ r, J0M x = some r ∧ (r.2 = 0 ∨ r.2 = 7 → x.take 8 = x.drop 248) := by
  unfold J0M
  have e0 : (((x.length : Nat) : Int) != 256) = false := by rw [hx]; rfl
  have e1 : J22 x none (some 8) = some (x.take 8) := Jbm x (b := 8) (by omega)
  have e2 : J22 x (some 248) none = some (x.drop 248) := Jdq x (a := 248) (by omega)
  have e3 : J22 x none (some 244) = some (x.take 244) := Jbm x (b := 244) (by omega)
  obtain ⟨n, e4⟩ := J99 x (by omega) (at_ := 244) (k := 4) (by omega) (by omega) (by omega)
  have e4' : JM x 244 4 = some n := e4
  obtain ⟨c, e5⟩ := Jli (x.take 244) (by simp; omega)
  obtain ⟨p, e6⟩ := Jl2 x hx
  obtain ⟨q, e7, _⟩ := JhB p.1
  simp only [e0, Bool.false_eq_true, if_false, J81, Option.bind_some]
  by_cases hb : x = blk
  · refine ⟨_, by rw [if_pos (by simpa using hb)], fun _ => ?_⟩
    rw [hb, Jl9, Jpt]
  · have hb' : (x == blk) = false := by simpa using hb
    simp only [hb', Bool.false_eq_true, if_false, e1, e2, Option.bind_some]
    by_cases hp : x.take 8 = x.drop 248
    · have hp' : (x.take 8 == x.drop 248) = true := by simpa using hp
      simp only [hp', if_true, e4', e3, e5, e6, e7, Option.bind_some]
      split
      · exact ⟨_, rfl, fun _ => hp⟩
      · split
        · split
          · exact ⟨_, rfl, fun _ => hp⟩
          · split
            · exact ⟨_, rfl, fun _ => hp⟩
            · exact ⟨_, rfl, fun _ => hp⟩
        · exact ⟨_, rfl, fun _ => hp⟩
    · have hp' : (x.take 8 == x.drop 248) = false := by simpa using hp
      simp only [hp', Bool.false_eq_true, if_false]
      exact ⟨_, rfl, fun h => by rcases h with h | h <;> cases h⟩
end Go.Am
end
section
namespace Go.Am
theorem JoG {x b j : Nat} (hj : j ≤ 7) (hx : x < 2 ^ (8 * j)) (hb : b < 256) :
    orI .u64 (x : Int) (IntKind.wrap .u64 (((b : Nat) : Int) * 2 ^ (8 * j))) = ((x + b * 2 ^ (8 * j) : Nat) : Int) := by
  have p1 : (2 : Nat) ^ (8 * j) * 256 ≤ 2 ^ 64 := by
    rw [show (256 : Nat) = 2 ^ 8 by rfl, ← Nat.pow_add]
    exact Nat.pow_le_pow_right (by omega) (by omega)
  have p2 : b * 2 ^ (8 * j) + 2 ^ (8 * j) ≤ 2 ^ 64 := by
    have : (b + 1) * 2 ^ (8 * j) ≤ 256 * 2 ^ (8 * j) := Nat.mul_le_mul_right _ (by omega)
    rw [Nat.add_mul, Nat.one_mul] at this
    omega
  have w : IntKind.wrap .u64 (((b : Nat) : Int) * 2 ^ (8 * j)) = ((b * 2 ^ (8 * j) : Nat) : Int) := by
    have e : (((b : Nat) : Int) * 2 ^ (8 * j)) = ((b * 2 ^ (8 * j) : Nat) : Int) := by simp
    rw [e, J7u (by omega) (by omega)]
  rw [w]
  have e1 : ∀ y : Nat, y < 2 ^ 64 → (BitVec.ofInt 64 (y : Int)).toNat = y := by
    intro y hy
    rw [BitVec.toNat_ofInt]
    omega
  show IntKind.wrap .u64 (((BitVec.ofInt 64 (x : Int) ||| BitVec.ofInt 64 ((b * 2 ^ (8 * j) : Nat) : Int)).toNat : Nat) : Int) = _
  rw [BitVec.toNat_or, e1 x (by omega), e1 _ (by omega)]
  have e2 : x ||| b * 2 ^ (8 * j) = x + b * 2 ^ (8 * j) := by
    rw [Nat.or_comm, Nat.mul_comm b, ← Nat.two_pow_add_eq_or_of_lt hx, Nat.add_comm]
  rw [e2, J7u (by omega) (by omega)]
theorem JhA {n i : Nat} (hn : n < 2 ^ 64) : J3q (n : Int) i = ((n / 2 ^ (8 * i) % 256 : Nat) : Int) := by
  show ((IntKind.wrap .u64 (n : Int)).fdiv (2 ^ (8 * i))) % 256 = _
  rw [Int.fdiv_eq_ediv_of_nonneg _ (Int.le_of_lt (Int.pow_pos (by decide))), J7u (by omega) (by omega)]
  simp
theorem Jgx {n : Int} {k i : Nat} (h : i < k) : (JH n k)[i]? = some (UInt8.ofNat (J3q n i).toNat) := by
  simp [JH, toStr, h]
theorem Jfd (pre post : List UInt8) {n k : Nat} (h1 : 1 ≤ k) (h8 : k ≤ 8) (hn : n < 2 ^ (8 * k)) (hn2 : n < 2 ^ 63) (hl : (pre ++ (JH n k ++ post)).length ≤ 1000) :
    J0o (pre ++ (JH n k ++ post)) (pre.length : Int) (k : Int) = some ((n : Int), 0) := by
  generalize hs : pre ++ (JH n k ++ post) = s at hl
  have hlen : pre.length + k ≤ s.length := by rw [← hs]; simp [JG]
  have c1 : ¬ ((k : Int) < 1) := by omega
  have c2 : ¬ ((k : Int) > 8) := by omega
  have c3 : ¬ ((pre.length : Int) < 0) := by omega
  have c4 : ¬ ((pre.length : Int) > (s.length : Int)) := by omega
  have e0 : IntKind.wrap .i64 ((s.length : Int) - pre.length) = (s.length : Int) - pre.length := J05 (by omega) (by omega)
  have c5 : ¬ ((s.length : Int) - pre.length < k) := by omega
  unfold J0o
  simp only [c1, c2, c3, c4, c5, e0, decide_false, Bool.false_eq_true, if_false]
  have key : ∀ (m j : Nat), j + m = k → JQ (fun q : Int × Int => J0t s pre.length k q.1 q.2) (((n % 2 ^ (8 * j) : Nat) : Int), (j : Int)) = some ((n : Int), 0) := by
    intro m
    induction m with
    | zero =>
      intro j hj
      obtain rfl : j = k := by omega
      have e1 : ¬ ((j : Nat) : Int) < (j : Int) := by omega
      refine J2m ?_
      simp only [J0t, e1, decide_false, Bool.false_eq_true, if_false, J4C, Option.map_some, Nat.mod_eq_of_lt hn]
      rw [J05 (by omega) (by omega)]
    | succ m ih =>
      intro j hj
      have e1 : ((j : Nat) : Int) < (k : Int) := by omega
      have e2 : IntKind.wrap .i64 ((pre.length : Int) + (j : Int)) = ((pre.length + j : Nat) : Int) := by rw [J05 (by omega) (by omega)]; omega
      have e3 : IntKind.wrap .i64 (8 * (j : Int)) = ((8 * j : Nat) : Int) := by rw [J05 (by omega) (by omega)]; omega
      have hb : (s[pre.length + j]'(by omega)).toNat = n / 2 ^ (8 * j) % 256 := by
        have h5 : s[pre.length + j]? = some (UInt8.ofNat (J3q (n : Int) j).toNat) := by
          rw [← hs, List.getElem?_append_right (by omega), Nat.add_sub_cancel_left, List.getElem?_append_left (by rw [JG]; omega), Jgx (by omega)]
        rw [List.getElem?_eq_getElem (by omega)] at h5
        injection h5 with h5
        have h6 := JaD (n : Int) j
        rw [← h5, JhA (by omega)] at h6
        omega
      have hb2 : n / 2 ^ (8 * j) % 256 < 256 := Nat.mod_lt _ (by omega)
      have e4 : Jc6 .u64 (IntKind.wrap .u64 (((s[pre.length + j]'(by omega)).toNat : Nat) : Int)) ((8 * j : Nat) : Int) = some (IntKind.wrap .u64 (((n / 2 ^ (8 * j) % 256 : Nat) : Int) * 2 ^ (8 * j))) := by
        rw [hb, J7u (by omega) (by omega)]
        simp only [Jc6]
        rw [if_neg (by omega)]
        have : min (((8 * j : Nat) : Int)).toNat IntKind.u64.bits = 8 * j := by
          simp only [Int.toNat_natCast]
          exact Nat.min_eq_left (by show 8 * j ≤ 64; omega)
        rw [this]
      have e5 := JoG (x := n % 2 ^ (8 * j)) (b := n / 2 ^ (8 * j) % 256) (j := j) (by omega) (Nat.mod_lt _ (Nat.two_pow_pos _)) hb2
      have e6 : n % 2 ^ (8 * j) + n / 2 ^ (8 * j) % 256 * 2 ^ (8 * j) = n % 2 ^ (8 * (j + 1)) := by
        rw [Nat.mul_add, Nat.pow_add, Nat.mod_mul, Nat.mul_comm (n / 2 ^ (8 * j) % 256)]
      rw [e6] at e5
      refine (J34 (s' := (((n % 2 ^ (8 * (j + 1)) : Nat) : Int), ((j + 1 : Nat) : Int))) ?_).trans (ih (j + 1) (by omega))
      simp only [J0t, e1, decide_true, if_true, e2, J6K (show pre.length + j < s.length by omega), Option.bind_some, e3, e4, e5, J1l (show j < 1000000 by omega)]
  have h0 := key k 0 (by omega)
  simp only [Nat.mul_zero, Nat.pow_zero, Nat.mod_one] at h0
  exact h0
end Go.Am
end
section
namespace Go.Am
def J73 (c : J5) : List UInt8 := JH (if c.Set then (c.Data.length : Int) else 255) 1 ++ c.Data ++ List.replicate (12 - c.Data.length) 0
theorem Jos {c : J5} (h : c.Data.length ≤ 12) : (J73 c).length = 13 := by
  simp only [J73, List.length_append, JG, List.length_replicate]; omega
theorem JoA (b : T_page_builder) (c : J5) (hc : c.Data.length ≤ 12) (hb : b.s_.length ≤ 300) : J1J b c = some ⟨b.s_ ++ J73 c⟩ := by
  have go : ∀ x : Int, J1n x b c = some ⟨b.s_ ++ (JH x 1 ++ c.Data ++ List.replicate (12 - c.Data.length) 0)⟩ := by
    intro x
    have e0 : IntKind.wrap .i64 (12 - ((c.Data.length : Nat) : Int)) = ((12 - c.Data.length : Nat) : Int) := by rw [J05 (by omega) (by omega)]; omega
    have e1 := J85 b.s_ x (k := 1) (by omega) (by omega) (by omega)
    have e2 : J37 (b.s_ ++ JH x 1) c.Data = some (b.s_ ++ JH x 1 ++ c.Data) := JcF (by rw [List.length_append, JG]; omega) (by omega)
    have e3 := Jba (n := ((12 - c.Data.length : Nat) : Int)) (by omega) (by omega)
    rw [Int.toNat_natCast] at e3
    have e4 : J37 (b.s_ ++ JH x 1 ++ c.Data) (List.replicate (12 - c.Data.length) 0) = some (b.s_ ++ JH x 1 ++ c.Data ++ List.replicate (12 - c.Data.length) 0) := JcF (by simp only [List.length_append, JG]; omega) (by simp; omega)
    unfold J1n
    rw [show (1 : Int) = ((1 : Nat) : Int) by rfl, e1, Option.bind_some, e2, Option.bind_some, e0, e3, Option.bind_some, e4, Option.bind_some]
    simp only [List.append_assoc]
  unfold J1J J73
  cases hs : c.Set with
  | true => simp only [if_true]; exact go _
  | false => simp only [Bool.false_eq_true, if_false]; exact go _
theorem Jnk (x : Int) : 0 ≤ Jjd .u32 x ∧ Jjd .u32 x < 4294967296 := by
  have h : ∀ y : Int, 0 ≤ IntKind.wrap .u32 y ∧ IntKind.wrap .u32 y < 4294967296 := by
    intro y
    have e : IntKind.wrap .u32 y = y % 4294967296 := rfl
    rw [e]; omega
  exact h _
theorem Jpc {l : List UInt8} {r : Int} (h : J1X l = some r) : 0 ≤ r ∧ r < 4294967296 := by
  unfold J1X at h
  obtain ⟨v, _, h⟩ := Option.bind_eq_some_iff.1 h
  have h0 : JQ (fun s : Int × Int => J1P l (l.length : Int) v s.1 s.2) (4294967295, 0) = some r := h
  refine J3l (P := fun (_ : Int × Int) (o : Int) => 0 ≤ o ∧ o < 4294967296) (fun s o hs => ?_) (fun s s1 o hs ih => ih) h0
  unfold J1P at hs
  split at hs
  · simp only [Option.bind_eq_some_iff, Option.some.injEq] at hs
    obtain ⟨_, _, _, _, _, _, _, _, _, _, _, _, _, _, hs⟩ := hs
    cases hs
  · obtain ⟨z, hz, e⟩ := Option.map_eq_some_iff.1 hs
    injection e with e
    subst e
    unfold J5u at hz
    injection hz with hz
    rw [← hz]
    exact Jnk _
end Go.Am
end
section
namespace Go.Am
def J1F (l : List J5) : List UInt8 := (l.map J73).flatten
theorem J8L : ∀ {l : List J5}, (∀ c ∈ l, c.Data.length ≤ 12) → (J1F l).length = 13 * l.length
  | [], _ => rfl
  | c :: l, h => by
    have h1 := Jos (h c (by simp))
    have h2 := J8L (l := l) fun d hd => h d (by simp [hd])
    simp only [J1F, List.map_cons, List.flatten_cons, List.length_append, List.length_cons] at h2 ⊢
    omega
theorem Jgf (l : List J5) (c : J5) : J1F (l ++ [c]) = J1F l ++ J73 c := by simp [J1F]
def J0s (p : T_api_Page) : List UInt8 := JH p.LSN 8 ++ JH p.ID 4 ++ J1F p.Cells.toList ++ List.replicate 24 0
theorem Jg7 {p : T_api_Page} (hp : J3v p) : ∃ c, J1X (J0s p) = some c ∧ J0B p = some (J0s p ++ JH (IntKind.wrap .i64 c) 4 ++ JH p.LSN 8, 0) := by
  have hd : ∀ c ∈ p.Cells.toList, c.Data.length ≤ 12 := by
    intro c hc
    obtain ⟨i, hi, rfl⟩ := List.getElem_of_mem hc
    have h16 : i < 16 := by simpa using hi
    have := (hp.cells i h16).1
    simpa using this
  have loop := J1i (f := fun s : Int × T_page_builder => J1Z p.Cells p s.1 s.2) (fun s => ∃ j : Nat, s.1 = j ∧ j ≤ 16 ∧ s.2.s_ = JH p.LSN 8 ++ JH p.ID 4 ++ J1F (p.Cells.toList.take j)) (fun s => (16 - s.1).toNat)
    (fun r => ∃ c, J1X (J0s p) = some c ∧ r = (J0s p ++ JH (IntKind.wrap .i64 c) 4 ++ JH p.LSN 8, 0)) (fun s ⟨j, hj, h4, ht⟩ => by
    obtain ⟨j', b⟩ := s
    simp only at hj ht
    subst hj
    have hl : (J1F (p.Cells.toList.take j)).length = 13 * j := by
      rw [J8L fun c hc => hd c (List.mem_of_mem_take hc)]
      simp; omega
    have hbl : b.s_.length = 12 + 13 * j := by rw [ht]; simp only [List.length_append, JG, hl]
    by_cases hlt : j < 16
    · left
      have e1 : ((j : Nat) : Int) < 16 := by omega
      have e2 := JoA b p.Cells[j] (hp.cells j hlt).1 (by omega)
      have e3 : p.Cells.toList.take (j + 1) = p.Cells.toList.take j ++ [p.Cells[j]] := by
        rw [List.take_add_one, List.getElem?_eq_getElem (by simpa using hlt)]
        simp
      exact ⟨⟨((j + 1 : Nat) : Int), ⟨b.s_ ++ J73 p.Cells[j]⟩⟩, by simp only [J1Z, e1, decide_true, if_true, J2G _ j hlt, Option.bind_some, e2, J1l (show j < 1000000 by omega)], ⟨j + 1, rfl, by omega, by show b.s_ ++ _ = _; rw [ht, e3, Jgf]; simp only [List.append_assoc]⟩, by simp; omega⟩
    · right
      obtain rfl : j = 16 := by omega
      have e1 : ¬ (((16 : Nat) : Nat) : Int) < 16 := by omega
      have e5 : p.Cells.toList.take 16 = p.Cells.toList := List.take_of_length_le (by simp)
      rw [e5] at ht
      have a0 : IntKind.wrap .i64 (244 - ((b.s_.length : Nat) : Int)) = 24 := by rw [hbl, J05 (by omega) (by omega)]; omega
      have a1 : J38 [0] 24 = some (List.replicate 24 0) := Jba (n := 24) (by omega) (by omega)
      have a6 : b.s_ ++ List.replicate 24 0 = J0s p := by rw [ht]; rfl
      have a7 : (J0s p).length = 244 := by rw [← a6]; simp [hbl]
      have a2 : J37 b.s_ (List.replicate 24 0) = some (J0s p) := by rw [← a6]; exact JcF (by omega) (by simp)
      obtain ⟨r, a3⟩ := Jli (J0s p) (by omega)
      have a4 := J85 (J0s p) (IntKind.wrap .i64 r) (k := 4) (by omega) (by omega) (by omega)
      have a5 := J85 (J0s p ++ JH (IntKind.wrap .i64 r) 4) p.LSN (k := 8) (by omega) (by omega) (by simp [a7, JG])
      refine ⟨_, ?_, r, a3, rfl⟩
      simp only [J1Z, e1, decide_false, Bool.false_eq_true, if_false, J5Q, a0, a1, a2, a3, Option.bind_some]
      rw [show (4 : Int) = ((4 : Nat) : Int) by rfl, a4, Option.bind_some, show (8 : Int) = ((8 : Nat) : Int) by rfl, a5]
      rfl) (0, ⟨JH p.LSN 8 ++ JH p.ID 4⟩) ⟨0, rfl, by omega, by simp [J1F]⟩
  obtain ⟨r, hr, c, hc, rfl⟩ := loop
  refine ⟨c, hc, ?_⟩
  obtain ⟨d, e2, _, hd2⟩ := Jjo p
  have hd3 := hd2 hp.cells
  subst hd3
  have e1 : J1v p = some true := by
    have i0 := hp.id0; have i1 := hp.id1; have l0 := hp.lsn0; have l1 := hp.lsn1
    simp [J1v, J1e, i0, i1, l0, l1]
  have a1 := J85 [] p.LSN (k := 8) (by omega) (by omega) (by simp)
  have a2 := J85 ([] ++ JH p.LSN 8) p.ID (k := 4) (by omega) (by omega) (by simp [JG])
  unfold J0B
  simp only [e1, e2, Option.bind_some, if_true]
  rw [show (8 : Int) = ((8 : Nat) : Int) by rfl, a1, Option.bind_some, show (4 : Int) = ((4 : Nat) : Int) by rfl, a2, Option.bind_some, List.nil_append]
  exact hr
end Go.Am
end
section
namespace Go.Am
theorem Jr7 {α : Type} {A D R : List α} {a b : Nat} (ha : a = A.length) (hb : b = A.length + D.length) : J22 (A ++ (D ++ R)) (some (a : Int)) (some (b : Int)) = some D := by
  rw [Jo9 _ (by omega) (by rw [hb]; simp)]
  rw [ha, hb, List.drop_left, Nat.add_sub_cancel_left, List.take_left]
theorem Jih {p : T_api_Page} (hp : J3v p) (tail : List UInt8) {j : Nat} (hj : j < 16) :
    ∃ A R, J0s p ++ tail = A ++ (J73 p.Cells[j] ++ R) ∧ A.length = 12 + 13 * j := by
  have hd : ∀ c ∈ p.Cells.toList, c.Data.length ≤ 12 := by
    intro c hc
    obtain ⟨i, hi, rfl⟩ := List.getElem_of_mem hc
    have h16 : i < 16 := by simpa using hi
    have := (hp.cells i h16).1
    simpa using this
  have e : p.Cells.toList = p.Cells.toList.take j ++ (p.Cells[j] :: p.Cells.toList.drop (j + 1)) := by
    have h1 : j < p.Cells.toList.length := by simpa using hj
    have h2 : p.Cells.toList.drop j = p.Cells.toList[j] :: p.Cells.toList.drop (j + 1) := List.drop_eq_getElem_cons h1
    have h3 : p.Cells.toList[j] = p.Cells[j] := by simp
    rw [← h3, ← h2, List.take_append_drop]
  refine ⟨JH p.LSN 8 ++ JH p.ID 4 ++ J1F (p.Cells.toList.take j), J1F (p.Cells.toList.drop (j + 1)) ++ List.replicate 24 0 ++ tail, ?_, ?_⟩
  · have e2 : J1F p.Cells.toList = J1F (p.Cells.toList.take j) ++ (J73 p.Cells[j] ++ J1F (p.Cells.toList.drop (j + 1))) := by
      conv => lhs; rw [e]
      simp only [J1F, List.map_append, List.map_cons, List.flatten_append, List.flatten_cons]
    unfold J0s
    rw [e2]
    simp only [List.append_assoc]
  · simp only [List.length_append, JG]
    rw [J8L fun c hc => hd c (List.mem_of_mem_take hc)]
    simp; omega
theorem J9z {p : T_api_Page} (hp : J3v p) : (J0s p).length = 244 := by
  have hd : ∀ c ∈ p.Cells.toList, c.Data.length ≤ 12 := by
    intro c hc
    obtain ⟨i, hi, rfl⟩ := List.getElem_of_mem hc
    have h16 : i < 16 := by simpa using hi
    have := (hp.cells i h16).1
    simpa using this
  unfold J0s
  simp only [List.length_append, JG, List.length_replicate]
  rw [J8L hd]
  simp
theorem Jon {p : T_api_Page} (hp : J3v p) (tail : List UInt8) (ht : tail.length = 12) : J2Y (J0s p ++ tail) = some (p, true) := by
  have i0 := hp.id0; have i1 := hp.id1; have l0 := hp.lsn0; have l1 := hp.lsn1
  have hlen : (J0s p ++ tail).length = 256 := by rw [List.length_append, J9z hp, ht]
  have hl8 : JM (J0s p ++ tail) 0 8 = some p.LSN := by
    have e : J0s p ++ tail = [] ++ (JH ((p.LSN.toNat : Nat) : Int) 8 ++ (JH p.ID 4 ++ J1F p.Cells.toList ++ List.replicate 24 0 ++ tail)) := by
      rw [show ((p.LSN.toNat : Nat) : Int) = p.LSN by omega]; simp only [J0s, List.append_assoc, List.nil_append]
    have h := Jfd [] (JH p.ID 4 ++ J1F p.Cells.toList ++ List.replicate 24 0 ++ tail) (n := p.LSN.toNat) (k := 8) (by omega) (by omega) (by omega) (by omega) (by rw [← e]; omega)
    rw [← e] at h
    have h' : J0o (J0s p ++ tail) 0 8 = some (((p.LSN.toNat : Nat) : Int), 0) := h
    simp only [JM, h', Option.bind_some, show ((p.LSN.toNat : Nat) : Int) = p.LSN by omega]
  have hid : JM (J0s p ++ tail) 8 4 = some p.ID := by
    have e : J0s p ++ tail = JH p.LSN 8 ++ (JH ((p.ID.toNat : Nat) : Int) 4 ++ (J1F p.Cells.toList ++ List.replicate 24 0 ++ tail)) := by
      rw [show ((p.ID.toNat : Nat) : Int) = p.ID by omega]; simp only [J0s, List.append_assoc]
    have h := Jfd (JH p.LSN 8) (J1F p.Cells.toList ++ List.replicate 24 0 ++ tail) (n := p.ID.toNat) (k := 4) (by omega) (by omega) (by omega) (by omega) (by rw [← e]; omega)
    rw [← e, JG] at h
    have h' : J0o (J0s p ++ tail) 8 4 = some (((p.ID.toNat : Nat) : Int), 0) := h
    simp only [JM, h', Option.bind_some, show ((p.ID.toNat : Nat) : Int) = p.ID by omega]
  unfold J2Y
  simp only [hl8, hid, Option.bind_some]
  obtain ⟨r, hr, rfl⟩ := J1i (f := fun q : Int × T_api_Page => J0A (J0s p ++ tail) ⟨0, 0, Vector.replicate 16 ⟨false, []⟩⟩ q.1 q.2)
    (fun q => ∃ j : Nat, q.1 = j ∧ j ≤ 16 ∧ q.2.ID = p.ID ∧ q.2.LSN = p.LSN ∧ ∀ (i : Nat) (h : i < 16), q.2.Cells[i] = if i < j then p.Cells[i] else ⟨false, []⟩) (fun q => (16 - q.1).toNat) (fun r => r = (p, true)) (fun q ⟨j, hj, h4, g1, g2, g3⟩ => by
    obtain ⟨j', q⟩ := q
    simp only at hj g1 g2 g3
    subst hj
    by_cases hlt : j < 16
    · left
      have e1 : ((j : Nat) : Int) < 16 := by omega
      have e2 : IntKind.wrap .i64 (12 + IntKind.wrap .i64 ((j : Int) * 13)) = ((12 + 13 * j : Nat) : Int) := by
        rw [J05 (n := (j : Int) * 13) (by omega) (by omega), J05 (by omega) (by omega)]; omega
      obtain ⟨A, R, hs, hA⟩ := Jih hp tail hlt
      have hck := hp.cells j hlt
      generalize hc : p.Cells[j] = c at hs hck
      obtain ⟨hc1, hc2, hc3⟩ := hck
      have hb : ∃ h : 12 + 13 * j < (J0s p ++ tail).length, ((J0s p ++ tail)[12 + 13 * j]'h).toNat = if c.Set then c.Data.length else 255 := by
        refine ⟨by omega, ?_⟩
        have h5 : (J0s p ++ tail)[12 + 13 * j]? = some (UInt8.ofNat (J3q (if c.Set then (c.Data.length : Int) else 255) 0).toNat) := by
          rw [hs, List.getElem?_append_right (by omega), hA, Nat.sub_self]
          simp only [J73, List.append_assoc]
          rw [List.getElem?_append_left (by rw [JG]; omega), Jgx (by omega)]
        rw [List.getElem?_eq_getElem (by omega)] at h5
        injection h5 with h5
        rw [h5]
        have hx : (if c.Set then (c.Data.length : Int) else 255) = (((if c.Set then c.Data.length else 255 : Nat) : Nat) : Int) := by split <;> simp
        have hx2 : (if c.Set then c.Data.length else 255 : Nat) < 256 := by split <;> omega
        rw [hx]
        have h6 := JaD (((if c.Set then c.Data.length else 255 : Nat) : Nat) : Int) 0
        rw [JhA (by omega)] at h6 ⊢
        simp only [Nat.mul_zero, Nat.pow_zero, Nat.div_one, Nat.mod_eq_of_lt hx2] at h6 ⊢
        omega
      obtain ⟨hb0, hb⟩ := hb
      have e3 : JM (J0s p ++ tail) ((12 + 13 * j : Nat) : Int) 1 = some (((if c.Set then c.Data.length else 255 : Nat) : Nat) : Int) := by
        simp only [JM, Jdm _ (show (J0s p ++ tail).length ≤ 1000 by omega) hb0, Option.bind_some, hb]
      cases hset : c.Set with
      | false =>
        simp only [hset, Bool.false_eq_true, if_false] at e3
        refine ⟨⟨((j + 1 : Nat) : Int), q⟩, by simp only [J0A, e1, decide_true, if_true, e2, e3, Option.bind_some, J1l (show j < 1000000 by omega)]; rfl, ⟨j + 1, rfl, by omega, g1, g2, fun i hi => ?_⟩, by simp; omega⟩
        rw [g3 i hi]
        by_cases hij : i < j
        · rw [if_pos hij, if_pos (by omega)]
        · by_cases hij2 : i = j
          · subst hij2
            rw [if_neg hij, if_pos (by omega), hc]
            have := hc2 hset
            cases c
            simp_all
          · rw [if_neg hij, if_neg (by omega)]
      | true =>
        simp only [hset, if_true] at e3
        have e4 : (((c.Data.length : Nat) : Int) == 255) = false := by simp; omega
        have h12 : ¬ ((c.Data.length : Nat) : Int) > 12 := by omega
        have e5 : IntKind.wrap .i64 (((12 + 13 * j : Nat) : Int) + 1) = ((13 + 13 * j : Nat) : Int) := by rw [J05 (by omega) (by omega)]; omega
        have e6 : IntKind.wrap .i64 (((13 + 13 * j : Nat) : Int) + ((c.Data.length : Nat) : Int)) = ((13 + 13 * j + c.Data.length : Nat) : Int) := by rw [J05 (by omega) (by omega)]; omega
        have e7 : J22 (J0s p ++ tail) (some ((13 + 13 * j : Nat) : Int)) (some ((13 + 13 * j + c.Data.length : Nat) : Int)) = some c.Data := by
          have hs2 : J0s p ++ tail = (A ++ JH (if c.Set then (c.Data.length : Int) else 255) 1) ++ (c.Data ++ (List.replicate (12 - c.Data.length) 0 ++ R)) := by
            rw [hs]; simp only [J73, List.append_assoc]
          rw [hs2]
          exact Jr7 (by rw [List.length_append, JG]; omega) (by rw [List.length_append, JG]; omega)
        refine ⟨⟨((j + 1 : Nat) : Int), ⟨q.ID, q.LSN, J7s q.Cells (j : Int) ⟨true, c.Data⟩⟩⟩, by simp only [J0A, e1, decide_true, if_true, e2, e3, Option.bind_some, e4, Bool.false_eq_true, if_false, h12, decide_false, e5, e6, e7, J6L hlt, J2G _ j hlt, J1l (show j < 1000000 by omega)], ⟨j + 1, rfl, by omega, g1, g2, fun i hi => ?_⟩, by simp; omega⟩
        show (J7s q.Cells (j : Int) ⟨true, c.Data⟩)[i] = _
        simp only [J7s, Int.toNat_natCast, Vector.getElem_setIfInBounds]
        by_cases hij2 : j = i
        · subst hij2
          rw [if_pos rfl, if_pos (by omega), hc]
          cases c
          simp_all
        · rw [if_neg hij2, g3 i hi]
          by_cases hij : i < j
          · rw [if_pos hij, if_pos (by omega)]
          · rw [if_neg hij, if_neg (by omega)]
    · right
      obtain rfl : j = 16 := by omega
      have e1 : ¬ (((16 : Nat) : Nat) : Int) < 16 := by omega
      refine ⟨(q, true), by simp only [J0A, e1, decide_false, Bool.false_eq_true, if_false, J4y, Option.map_some], ?_⟩
      have hq : q = p := by
        cases q; cases p
        simp only [T_api_Page.mk.injEq]
        refine ⟨g1, g2, Vector.ext fun i hi => ?_⟩
        have := g3 i hi
        rw [if_pos hi] at this
        exact this
      rw [hq]) (0, ⟨p.ID, p.LSN, Vector.replicate 16 ⟨false, []⟩⟩) ⟨0, rfl, by omega, rfl, rfl, fun i hi => by simp⟩
  exact hr
end Go.Am
end
section
namespace Go.Am
theorem Jmv {p : T_api_Page} (hp : J3v p) : ∃ s, J0B p = some (s, 0) ∧ s.length = 256 ∧ J0M s = some (p, 0) := by
  obtain ⟨c, hc, henc⟩ := Jg7 hp
  obtain ⟨c0, c1⟩ := Jpc hc
  have l0 := hp.lsn0; have l1 := hp.lsn1
  have hw : IntKind.wrap .i64 c = c := J05 (by omega) (by omega)
  rw [hw] at henc
  have hbl := J9z hp
  generalize hs : J0s p ++ JH c 4 ++ JH p.LSN 8 = s at henc
  have hlen : s.length = 256 := by rw [← hs]; simp [hbl, JG]
  refine ⟨s, henc, hlen, ?_⟩
  have hrd : J2Y s = some (p, true) := by
    rw [← hs, List.append_assoc]
    exact Jon hp _ (by simp [JG])
  have t8 : s.take 8 = JH p.LSN 8 := by
    rw [← hs]
    simp only [J0s, List.append_assoc]
    rw [List.take_append_of_le_length (by rw [JG]; omega), List.take_of_length_le (by rw [JG]; omega)]
  have d248 : s.drop 248 = JH p.LSN 8 := by
    rw [← hs, List.drop_append, List.drop_of_length_le (by simp [hbl, JG]), List.nil_append]
    simp [hbl, JG]
  have t244 : s.take 244 = J0s p := by
    rw [← hs, List.append_assoc, List.take_append_of_le_length (by omega), List.take_of_length_le (by omega)]
  have hsum : JM s 244 4 = some c := by
    have e : s = J0s p ++ (JH ((c.toNat : Nat) : Int) 4 ++ JH p.LSN 8) := by
      rw [show ((c.toNat : Nat) : Int) = c by omega, ← hs, List.append_assoc]
    have h := Jfd (J0s p) (JH p.LSN 8) (n := c.toNat) (k := 4) (by omega) (by omega) (by omega) (by omega) (by rw [← e]; omega)
    rw [← e, hbl] at h
    have h' : J0o s 244 4 = some (((c.toNat : Nat) : Int), 0) := h
    simp only [JM, h', Option.bind_some, show ((c.toNat : Nat) : Int) = c by omega]
  have nb : s ≠ blk := by
    intro h
    have hl : p.LSN = 0 := by
      have h1 : JH p.LSN 8 = JH 0 8 := by rw [← t8, h, Jl9]
      exact JpW l0 l1 (by omega) (by omega) h1
    obtain ⟨A, R, hcell, hA⟩ := Jih hp (JH c 4 ++ JH p.LSN 8) (j := 0) (by omega)
    have hset : p.Cells[0].Set = false := by
      cases hh : p.Cells[0].Set with
      | false => rfl
      | true => exact ((hp.cells 0 (by omega)).2.2 hh hl).elim
    have h12 : s[12]? = some 255 := by
      rw [← hs, List.append_assoc, hcell, List.getElem?_append_right (by omega), hA]
      simp only [J73, hset, Bool.false_eq_true, if_false, List.append_assoc]
      rw [List.getElem?_append_left (by rw [JG]; omega), Jgx (by omega)]
      decide +kernel
    have b12 : blk[12]? = some 0 := by decide +kernel
    rw [h, b12] at h12
    exact absurd h12 (by decide)
  unfold J0M
  have e0 : (((s.length : Nat) : Int) != 256) = false := by rw [hlen]; rfl
  have e1 : J22 s none (some 8) = some (s.take 8) := Jbm s (b := 8) (by omega)
  have e2 : J22 s (some 248) none = some (s.drop 248) := Jdq s (a := 248) (by omega)
  have e3 : J22 s none (some 244) = some (s.take 244) := Jbm s (b := 244) (by omega)
  have nb' : (s == blk) = false := by simpa using nb
  simp only [e0, Bool.false_eq_true, if_false, J81, Option.bind_some, nb', e1, e2, t8, d248, beq_self_eq_true, if_true, hsum, e3, t244, hc, hw, bne_self_eq_false, hrd, henc]
end Go.Am
end
section
namespace Go.Am
end Go.Am
end
section
namespace Go.Am
def Jfc (p : T_api_Page) : Prop := ∀ (i : Nat) (h : i < 16), J3Y p.LSN p.Cells[i]
theorem JjJ (p : T_api_Page) : ∃ b, J4o p = some b ∧ (b = true ↔ Jfc p) := by
  refine J1i (f := fun s : Int => J0r p.Cells p s) (fun s => ∃ j : Nat, s = j ∧ j ≤ 16 ∧ ∀ (i : Nat) (h : i < 16), i < j → J3Y p.LSN p.Cells[i]) (fun s => (16 - s).toNat)
    (fun b => b = true ↔ Jfc p) (fun s ⟨j, hj, h4, hc⟩ => ?_) 0 ⟨0, rfl, by omega, fun i h hh => by omega⟩
  subst hj
  by_cases hlt : j < 16
  · have e1 : ((j : Nat) : Int) < 16 := by omega
    have e2 := J2G p.Cells j hlt
    have e3 := J1l (show j < 1000000 by omega)
    have bad : ¬ J3Y p.LSN p.Cells[j] → (false = true ↔ Jfc p) := fun h1 => ⟨fun h => (by cases h), fun h2 => (h1 (h2 j hlt)).elim⟩
    have nxt : J3Y p.LSN p.Cells[j] → ∀ (i : Nat) (h : i < 16), i < j + 1 → J3Y p.LSN p.Cells[i] := by
      intro hok i hi hij
      by_cases hh : i < j
      · exact hc i hi hh
      · obtain rfl : i = j := by omega
        exact hok
    by_cases h12 : (((p.Cells[j]).Data.length : Nat) : Int) > 12
    · right
      exact ⟨false, by simp only [J0r, e1, decide_true, if_true, e2, Option.bind_some, h12], bad fun h => by have := h.1; omega⟩
    · by_cases hs : (p.Cells[j]).Set = true
      · by_cases hl : p.LSN = 0
        · right
          exact ⟨false, by simp only [J0r, e1, decide_true, if_true, e2, Option.bind_some, h12, decide_false, Bool.false_eq_true, if_false, hs, hl, beq_self_eq_true], bad fun h => h.2.2 hs hl⟩
        · left
          have e4 : (p.LSN == 0) = false := by simpa using hl
          exact ⟨((j + 1 : Nat) : Int), by simp only [J0r, e1, decide_true, if_true, e2, Option.bind_some, h12, decide_false, Bool.false_eq_true, if_false, hs, e4, e3], ⟨j + 1, rfl, by omega, nxt ⟨by omega, (fun h => by rw [hs] at h; cases h), fun _ => hl⟩⟩, by omega⟩
      · have hs' : (p.Cells[j]).Set = false := by simpa using hs
        by_cases hd : (p.Cells[j]).Data = []
        · left
          exact ⟨((j + 1 : Nat) : Int), by simp only [J0r, e1, decide_true, if_true, e2, Option.bind_some, h12, decide_false, Bool.false_eq_true, if_false, hs', hd, beq_self_eq_true, e3]; rfl, ⟨j + 1, rfl, by omega, nxt ⟨by omega, fun _ => hd, fun h => (hs h).elim⟩⟩, by omega⟩
        · right
          have e4 : ((p.Cells[j]).Data == []) = false := by simpa using hd
          exact ⟨false, by simp only [J0r, e1, decide_true, if_true, e2, Option.bind_some, h12, decide_false, Bool.false_eq_true, if_false, hs', e4], bad fun h => hd (h.2.1 hs')⟩
  · right
    have e1 : ¬ ((j : Nat) : Int) < 16 := by omega
    exact ⟨true, by simp only [J0r, e1, decide_false, Bool.false_eq_true, if_false, J6a, Option.map_some], fun _ i h => hc i h (by omega), fun _ => rfl⟩
end Go.Am
end
section
namespace Go.Am
theorem Jeq {n : Int} (h0 : 0 ≤ n) (h1 : n ≤ 1000000) : J4u n = some (List.replicate n.toNat 0) := by
  have e : (0 : Int) ≤ n ∧ n ≤ n ∧ ((1 : Nat) : Int) * n ≤ 281474976710656 ∧ n ≤ 281474976710656 := by omega
  have e2 : toStr (List.replicate n.toNat (0 : Int)) = List.replicate n.toNat 0 := by
    simp [toStr]
  unfold J4u mkS
  rw [if_pos e, Option.bind_some, e2]
theorem Jjm : J8j = some blk := by
  unfold J8j
  rw [Jeq (by omega) (by omega)]
  rfl
theorem JrY (n : Int) : Jg9 n = J7y n := rfl
theorem JmG (p : T_api_Page) : J8P p = J1v p := by
  unfold J8P J1v J1e
  by_cases h1 : p.ID ≥ 0
  · by_cases h2 : p.ID < 64
    · simp only [h1, h2, decide_true, if_true, Option.bind_some]
    · simp only [h1, h2, decide_true, decide_false, if_true, Bool.false_eq_true, if_false, Option.bind_some]
  · simp only [h1, decide_false, Bool.false_eq_true, if_false, Option.bind_some]
theorem JnJ (p : T_api_Page) : ∃ b, J1v p = some b ∧ (b = true ↔ (0 ≤ p.ID ∧ p.ID < 64 ∧ 0 ≤ p.LSN ∧ p.LSN ≤ 1099511627776)) := by
  unfold J1v J1e
  by_cases h1 : p.ID ≥ 0
  · by_cases h2 : p.ID < 64
    · by_cases h3 : p.LSN ≥ 0
      · refine ⟨decide (p.LSN ≤ 1099511627776), by simp only [h1, h2, h3, decide_true, if_true, Option.bind_some], ?_⟩
        rw [decide_eq_true_eq]
        exact ⟨fun h => ⟨h1, h2, h3, h⟩, fun h => h.2.2.2⟩
      · exact ⟨false, by simp only [h1, h2, h3, decide_true, decide_false, if_true, Bool.false_eq_true, if_false, Option.bind_some], by simp; omega⟩
    · exact ⟨false, by simp only [h1, h2, decide_true, decide_false, if_true, Bool.false_eq_true, if_false, Option.bind_some], by simp; omega⟩
  · exact ⟨false, by simp only [h1, decide_false, Bool.false_eq_true, if_false, Option.bind_some], by simp; omega⟩
theorem JkA (p : T_api_Page) : ∃ b, Ja6 p = some b ∧ (b = true ↔ Jfc p) := by
  refine J1i (f := fun s : Int => J2N p s) (fun s => ∃ j : Nat, s = j ∧ j ≤ 16 ∧ ∀ (i : Nat) (h : i < 16), i < j → J3Y p.LSN p.Cells[i]) (fun s => (16 - s).toNat)
    (fun b => b = true ↔ Jfc p) (fun s ⟨j, hj, h4, hc⟩ => ?_) 0 ⟨0, rfl, by omega, fun i h hh => by omega⟩
  subst hj
  by_cases hlt : j < 16
  · have e1 : ((j : Nat) : Int) < 16 := by omega
    have e2 := J2G p.Cells j hlt
    have e3 := J1l (show j < 1000000 by omega)
    have e0 := J6L hlt
    have bad : ¬ J3Y p.LSN p.Cells[j] → (false = true ↔ Jfc p) := fun h1 => ⟨fun h => (by cases h), fun h2 => (h1 (h2 j hlt)).elim⟩
    have nxt : J3Y p.LSN p.Cells[j] → ∀ (i : Nat) (h : i < 16), i < j + 1 → J3Y p.LSN p.Cells[i] := by
      intro hok i hi hij
      by_cases hh : i < j
      · exact hc i hi hh
      · obtain rfl : i = j := by omega
        exact hok
    by_cases h12 : (((p.Cells[j]).Data.length : Nat) : Int) ≤ 12
    · by_cases hs : (p.Cells[j]).Set = true
      · have v1 : J1N p.Cells[j] = some true := by simp only [J1N, h12, decide_true, if_true, hs]
        by_cases hl : p.LSN = 0
        · right
          exact ⟨false, by simp only [J2N, e1, decide_true, if_true, e0, e2, Option.bind_some, v1, hs, hl, beq_self_eq_true], bad fun h => h.2.2 hs hl⟩
        · left
          have e4 : (p.LSN == 0) = false := by simpa using hl
          exact ⟨((j + 1 : Nat) : Int), by simp only [J2N, e1, decide_true, if_true, e0, e2, Option.bind_some, v1, e4, Bool.false_eq_true, if_false, e3], ⟨j + 1, rfl, by omega, nxt ⟨by omega, (fun h => by rw [hs] at h; cases h), fun _ => hl⟩⟩, by omega⟩
      · have hs' : (p.Cells[j]).Set = false := by simpa using hs
        by_cases hd : (p.Cells[j]).Data = []
        · have v1 : J1N p.Cells[j] = some true := by simp only [J1N, h12, decide_true, if_true, hs', Bool.false_eq_true, if_false]; rw [hd]; rfl
          left
          refine ⟨((j + 1 : Nat) : Int), ?_, ⟨j + 1, rfl, by omega, nxt ⟨by omega, fun _ => hd, fun h => (hs h).elim⟩⟩, by omega⟩
          simp only [J2N, e1, decide_true, if_true, e0, e2, Option.bind_some, v1, hs', Bool.false_eq_true, if_false, e3]
          split <;> rfl
        · right
          have e4 : ((p.Cells[j]).Data == []) = false := by simpa using hd
          have v1 : J1N p.Cells[j] = some false := by simp only [J1N, h12, decide_true, if_true, hs', Bool.false_eq_true, if_false, e4]
          exact ⟨false, by simp only [J2N, e1, decide_true, if_true, e0, e2, Option.bind_some, v1, Bool.false_eq_true, if_false], bad fun h => hd (h.2.1 hs')⟩
    · right
      have v1 : J1N p.Cells[j] = some false := by simp only [J1N, h12, decide_false, Bool.false_eq_true, if_false]
      exact ⟨false, by simp only [J2N, e1, decide_true, if_true, e0, e2, Option.bind_some, v1, Bool.false_eq_true, if_false], bad fun h => h12 (by have := h.1; omega)⟩
  · right
    have e1 : ¬ ((j : Nat) : Int) < 16 := by omega
    exact ⟨true, by simp only [J2N, e1, decide_false, Bool.false_eq_true, if_false, JbJ, Option.map_some], fun _ i h => hc i h (by omega), fun _ => rfl⟩
theorem JoW (p : T_api_Page) : Ja6 p = J4o p := by
  obtain ⟨b, h1, h2⟩ := JjJ p
  obtain ⟨c, h3, h4⟩ := JkA p
  rw [h1, h3]
  congr 1
  cases b <;> cases c <;> simp_all
def J9G (p : T_api_Page) : List UInt8 := J0s p ++ JH ((crc (J0s p) : Nat) : Int) 4 ++ JH p.LSN 8
theorem JbL {p : T_api_Page} (hp : J3v p) : J0B p = some (J9G p, 0) := by
  obtain ⟨c, h1, h2⟩ := Jg7 hp
  rw [Jlh _ (by rw [J9z hp]; omega)] at h1
  injection h1 with h1
  subst h1
  have hc := JlR (J0s p)
  rw [J05 (by omega) (by omega)] at h2
  exact h2
theorem Jhw {p : T_api_Page} (hp : J3v p) : ∀ (m j : Nat), j + m = 16 →
    JQ (fun s : List UInt8 × Int => J6n p s.1 s.2) (JH p.LSN 8 ++ JH p.ID 4 ++ J1F (p.Cells.toList.take j), (j : Int)) = some (J9G p, 0) := by
  have hd : ∀ c ∈ p.Cells.toList, c.Data.length ≤ 12 := by
    intro c hc
    obtain ⟨i, hi, rfl⟩ := List.getElem_of_mem hc
    have h16 : i < 16 := by simpa using hi
    have := (hp.cells i h16).1
    simpa using this
  have hlen : ∀ j, j ≤ 16 → (JH p.LSN 8 ++ JH p.ID 4 ++ J1F (p.Cells.toList.take j)).length = 12 + 13 * j := by
    intro j hj
    have hl : (J1F (p.Cells.toList.take j)).length = 13 * j := by
      rw [J8L fun c hc => hd c (List.mem_of_mem_take hc)]
      simp; omega
    simp only [List.length_append, JG, hl]
  intro m
  induction m with
  | zero =>
    intro j hj
    obtain rfl : j = 16 := by omega
    refine J2m ?_
    have e1 : ¬ (((16 : Nat) : Nat) : Int) < 16 := by omega
    have e5 : p.Cells.toList.take 16 = p.Cells.toList := List.take_of_length_le (by simp)
    have h0 := hlen 16 (by omega)
    rw [e5] at h0 ⊢
    generalize hx : JH p.LSN 8 ++ JH p.ID 4 ++ J1F p.Cells.toList = x at h0
    have a0 : IntKind.wrap .i64 (244 - ((x.length : Nat) : Int)) = 24 := by rw [h0, J05 (by omega) (by omega)]; omega
    have a1 : J4u 24 = some (List.replicate 24 0) := Jeq (n := 24) (by omega) (by omega)
    have a6 : x ++ List.replicate 24 0 = J0s p := by rw [← hx]; rfl
    have a2 : J37 x (List.replicate 24 0) = some (J0s p) := by rw [← a6]; exact J8y (by simp; omega)
    have a3 := Jn9 (J0s p) (by rw [J9z hp]; omega)
    have hc := JlR (J0s p)
    have a7 : IntKind.wrap .i64 ((crc (J0s p) : Nat) : Int) = ((crc (J0s p) : Nat) : Int) := J05 (by omega) (by omega)
    have a4 : J2u (J0s p) ((crc (J0s p) : Nat) : Int) 4 = some (J0s p ++ JH ((crc (J0s p) : Nat) : Int) 4) := J8X _ _ (k := 4) (by omega) (by omega) (by rw [J9z hp]; omega)
    have a5 : J2u (J0s p ++ JH ((crc (J0s p) : Nat) : Int) 4) p.LSN 8 = some (J9G p) := J8X _ _ (k := 8) (by omega) (by omega) (by rw [List.length_append, J9z hp, JG]; omega)
    simp only [J6n, e1, decide_false, Bool.false_eq_true, if_false, Jbg, a0, a1, a2, a3, a7, a4, a5, Option.bind_some, Option.map_some]
  | succ m ih =>
    intro j hj
    have hlt : j < 16 := by omega
    have e1 : ((j : Nat) : Int) < 16 := by omega
    have h0 := hlen j (by omega)
    have e3 : p.Cells.toList.take (j + 1) = p.Cells.toList.take j ++ [p.Cells[j]] := by
      rw [List.take_add_one, List.getElem?_eq_getElem (by simpa using hlt)]
      simp
    have hcl := (hp.cells j hlt).1
    have go : ∀ n : Int, n = (if (p.Cells[j]).Set then ((p.Cells[j]).Data.length : Int) else 255) →
        J6q (JH p.LSN 8 ++ JH p.ID 4 ++ J1F (p.Cells.toList.take j)) (j : Int) n p = some (.inl (JH p.LSN 8 ++ JH p.ID 4 ++ J1F (p.Cells.toList.take (j + 1)), ((j + 1 : Nat) : Int))) := by
      intro n hn
      rw [e3, Jgf, ← List.append_assoc]
      generalize JH p.LSN 8 ++ JH p.ID 4 ++ J1F (p.Cells.toList.take j) = x at h0
      have a0 : IntKind.wrap .i64 (12 - (((p.Cells[j]).Data.length : Nat) : Int)) = ((12 - (p.Cells[j]).Data.length : Nat) : Int) := by rw [J05 (by omega) (by omega)]; omega
      have a1 : J4u ((12 - (p.Cells[j]).Data.length : Nat) : Int) = some (List.replicate (12 - (p.Cells[j]).Data.length) 0) := by
        rw [Jeq (by omega) (by omega), Int.toNat_natCast]
      have a2 : J2u x n 1 = some (x ++ JH n 1) := J8X _ _ (k := 1) (by omega) (by omega) (by omega)
      have a3 : J37 (p.Cells[j]).Data (List.replicate (12 - (p.Cells[j]).Data.length) 0) = some ((p.Cells[j]).Data ++ List.replicate (12 - (p.Cells[j]).Data.length) 0) := J8y (by simp; omega)
      have a4 : J37 (x ++ JH n 1) ((p.Cells[j]).Data ++ List.replicate (12 - (p.Cells[j]).Data.length) 0) = some (x ++ J73 p.Cells[j]) := by
        rw [J8y (by simp only [List.length_append, JG, List.length_replicate]; omega)]
        simp only [J73, hn, List.append_assoc]
      simp only [J6q, a2, J6L hlt, J2G _ j hlt, a0, a1, a3, a4, Option.bind_some, Jbl, J1l (show j < 1000000 by omega)]
    refine (J34 (s' := (JH p.LSN 8 ++ JH p.ID 4 ++ J1F (p.Cells.toList.take (j + 1)), ((j + 1 : Nat) : Int))) ?_).trans (ih (j + 1) (by omega))
    simp only [J6n, e1, decide_true, if_true, J6L hlt, J2G _ j hlt, Option.bind_some]
    cases hs : (p.Cells[j]).Set with
    | true => simp only [if_true]; exact go _ (by rw [hs]; rfl)
    | false => simp only [Bool.false_eq_true, if_false]; exact go _ (by rw [hs]; rfl)
theorem Jot (p : T_api_Page) : ∃ e, Jab p = some e ∧ (e = 0 ↔ J3v p) ∧ (e ≠ 0 → J0B p = some ([], e)) := by
  obtain ⟨a, h1, h2⟩ := JnJ p
  obtain ⟨b, h3, h4⟩ := JjJ p
  unfold Jab
  simp only [JmG, JoW, h1, h3, Option.bind_some]
  cases a with
  | false =>
    refine ⟨1, rfl, ⟨fun h => (by cases h), fun h => ?_⟩, fun _ => ?_⟩
    · have := h2.2 ⟨h.id0, h.id1, h.lsn0, h.lsn1⟩
      cases this
    · unfold J0B
      simp only [h1, Option.bind_some, Bool.false_eq_true, if_false]
  | true =>
    obtain ⟨i0, i1, l0, l1⟩ := h2.1 rfl
    cases b with
    | false =>
      refine ⟨22, rfl, ⟨fun h => (by cases h), fun h => ?_⟩, fun _ => ?_⟩
      · have := h4.2 h.cells
        cases this
      · unfold J0B
        simp only [h1, h3, Option.bind_some, if_true, Bool.false_eq_true, if_false]
    | true => exact ⟨0, rfl, ⟨fun _ => ⟨i0, i1, l0, l1, h4.1 rfl⟩, fun _ => rfl⟩, fun h => (h rfl).elim⟩
theorem Ji0 (p : T_api_Page) : J9A p = J0B p := by
  obtain ⟨e, h1, h2, h3⟩ := Jot p
  unfold J9A
  simp only [h1, Option.bind_some]
  by_cases he : e = 0
  · have hp := h2.1 he
    have e0 : (e != 0) = false := by simp [he]
    have a1 : J2u [] p.LSN 8 = some (JH p.LSN 8) := J8X [] _ (k := 8) (by omega) (by omega) (by simp)
    have a2 : J2u (JH p.LSN 8) p.ID 4 = some (JH p.LSN 8 ++ JH p.ID 4) := J8X _ _ (k := 4) (by omega) (by omega) (by rw [JG]; omega)
    simp only [e0, Bool.false_eq_true, if_false, a1, a2, Option.bind_some]
    rw [JbL hp]
    have h := Jhw hp 16 0 (by omega)
    simp only [List.take_zero, J1F, List.map_nil, List.flatten_nil, List.append_nil] at h
    exact h
  · have e0 : (e != 0) = true := by simpa using he
    simp only [e0, if_true]
    rw [h3 he]
end Go.Am
end
section
namespace Go.Am
set_option maxRecDepth 16000
theorem JhO (p : T_api_Page) : ∃ r, J0B p = some r := by
  obtain ⟨r, h, _⟩ := JhB p
  exact ⟨r, h⟩
theorem Jid {s : List UInt8} {at_ k n : Int} (h : JM s at_ k = some n) : ∃ e, J0o s at_ k = some (n, e) := by
  unfold JM at h
  obtain ⟨r, h1, h2⟩ := Option.bind_eq_some_iff.1 h
  injection h2 with h2
  exact ⟨r.2, by rw [h1, ← h2]⟩
theorem JrB (s : List UInt8) (hs : s.length ≤ 1000) {at_ k : Nat} (h1 : 1 ≤ k) (h8 : k ≤ 4) (ha : at_ ≤ 1000) : ∃ (n : Nat) (e : Int), J0o s at_ k = some ((n : Int), e) ∧ n < 2 ^ 32 := by
  have a1 : ¬ (k : Int) < 1 := by omega
  have a2 : ¬ (k : Int) > 8 := by omega
  have a3 : ¬ (at_ : Int) < 0 := by omega
  unfold J0o
  simp only [a1, a2, a3, decide_false, Bool.false_eq_true, if_false]
  by_cases c1 : (at_ : Int) > (s.length : Int)
  · exact ⟨0, 5, by simp only [c1, decide_true, if_true]; rfl, by decide⟩
  · have e0 : IntKind.wrap .i64 ((s.length : Int) - at_) = (s.length : Int) - at_ := J05 (by omega) (by omega)
    by_cases c2 : (s.length : Int) - at_ < k
    · exact ⟨0, 5, by simp only [c1, e0, c2, decide_false, decide_true, Bool.false_eq_true, if_false, if_true]; rfl, by decide⟩
    · simp only [c1, e0, c2, decide_false, Bool.false_eq_true, if_false]
      obtain ⟨r, hr, n, e, rfl, hn⟩ := J1i (f := fun q : Int × Int => J0t s at_ k q.1 q.2) (fun q => ∃ j x : Nat, q.2 = j ∧ q.1 = x ∧ j ≤ k ∧ x < 2 ^ (8 * j)) (fun q => (k - q.2).toNat)
        (fun r => ∃ (n : Nat) (e : Int), r = ((n : Int), e) ∧ n < 2 ^ 32) (fun q ⟨j, x, hj, hx, hjk, hxl⟩ => by
        obtain ⟨x', j'⟩ := q
        simp only at hj hx
        subst hj hx
        by_cases hlt : j < k
        · left
          have e1 : ((j : Nat) : Int) < (k : Int) := by omega
          have e2 : IntKind.wrap .i64 ((at_ : Int) + (j : Int)) = ((at_ + j : Nat) : Int) := by rw [J05 (by omega) (by omega)]; omega
          have e3 : IntKind.wrap .i64 (8 * (j : Int)) = ((8 * j : Nat) : Int) := by rw [J05 (by omega) (by omega)]; omega
          have hlt2 : at_ + j < s.length := by omega
          have hu : (s[at_ + j]).toNat < 256 := UInt8.toNat_lt _
          have e4 : Jc6 .u64 (IntKind.wrap .u64 (((s[at_ + j]).toNat : Nat) : Int)) ((8 * j : Nat) : Int) = some (IntKind.wrap .u64 ((((s[at_ + j]).toNat : Nat) : Int) * 2 ^ (8 * j))) := by
            rw [J7u (by omega) (by omega)]
            simp only [Jc6]
            rw [if_neg (by omega)]
            have : min (((8 * j : Nat) : Int)).toNat IntKind.u64.bits = 8 * j := by
              simp only [Int.toNat_natCast]
              exact Nat.min_eq_left (by show 8 * j ≤ 64; omega)
            rw [this]
          have e5 := JoG (x := x) (b := (s[at_ + j]).toNat) (j := j) (by omega) hxl hu
          refine ⟨(((x + (s[at_ + j]).toNat * 2 ^ (8 * j) : Nat) : Int), ((j + 1 : Nat) : Int)), ?_, ⟨j + 1, x + (s[at_ + j]).toNat * 2 ^ (8 * j), rfl, rfl, by omega, ?_⟩, by show ((k : Int) - ((j + 1 : Nat) : Int)).toNat < ((k : Int) - (j : Int)).toNat; omega⟩
          · simp only [J0t, e1, decide_true, if_true, e2, J6K hlt2, Option.bind_some, e3, e4, e5, J1l (show j < 1000000 by omega)]
          · have : (s[at_ + j]).toNat * 2 ^ (8 * j) + 2 ^ (8 * j) ≤ 256 * 2 ^ (8 * j) := by
              rw [← Nat.succ_mul]; exact Nat.mul_le_mul_right _ hu
            have e6 : 2 ^ (8 * (j + 1)) = 256 * 2 ^ (8 * j) := by rw [Nat.mul_add, Nat.pow_add, Nat.mul_comm]
            omega
        · right
          obtain rfl : j = k := by omega
          have e1 : ¬ ((j : Nat) : Int) < (j : Int) := by omega
          have h32 : (2 : Nat) ^ (8 * j) ≤ 2 ^ 32 := Nat.pow_le_pow_right (by omega) (by omega)
          refine ⟨((x : Int), 0), ?_, x, 0, rfl, by omega⟩
          simp only [J0t, e1, decide_false, Bool.false_eq_true, if_false, J4C, Option.map_some]
          rw [J05 (by omega) (by omega)]) (0, 0) ⟨0, 0, rfl, rfl, by omega, by decide⟩
      exact ⟨n, e, hr, hn⟩
theorem bind_none {α β : Type} {o : Option α} {f : α → Option β} (h : Option.bind o f = none) (h2 : ∀ x, o = some x → f x ≠ none) : o = none := by
  cases o with
  | none => rfl
  | some x => exact (h2 x rfl h).elim
theorem JpU {s : List UInt8} (hs : s.length = 256) (p0 : T_api_Page) (q : Int × T_api_Page) (hq : ∃ j : Nat, q.1 = j ∧ j ≤ 16) {r : T_api_Page × Bool} (h : J8a s p0 q = some r) :
    ∃ r', Jbn s p0 q = some r' ∧ (if r.2 = true then J46 s p0 r.1 = some r' else r' = (⟨0, 0, Vector.replicate 16 ⟨false, []⟩⟩, 4)) := by
  refine JoK (f := fun q : Int × T_api_Page => J0A s p0 q.1 q.2) (g := fun q : Int × T_api_Page => J55 s p0 q.1 q.2) (fun a b => a = b ∧ ∃ j : Nat, a.1 = j ∧ j ≤ 16)
    (fun r r' => if r.2 = true then J46 s p0 r.1 = some r' else r' = (⟨0, 0, Vector.replicate 16 ⟨false, []⟩⟩, 4)) ?_ ?_ ⟨rfl, hq⟩ h
  all_goals
    rintro ⟨j', p⟩ _ r ⟨rfl, j, hj, h16⟩ e
    simp only at hj
    subst hj
  · by_cases hlt : j < 16
    · have e1 : ((j : Nat) : Int) < 16 := by omega
      have e2 : IntKind.wrap .i64 (12 + IntKind.wrap .i64 ((j : Int) * 13)) = ((12 + 13 * j : Nat) : Int) := by
        rw [J05 (n := (j : Int) * 13) (by omega) (by omega), J05 (by omega) (by omega)]; omega
      have hu : (s[12 + 13 * j]'(by omega)).toNat < 256 := UInt8.toNat_lt _
      have e3 : JM s ((12 + 13 * j : Nat) : Int) 1 = some (((s[12 + 13 * j]'(by omega)).toNat : Nat) : Int) := by
        simp only [JM, Jdm s (by omega) (show 12 + 13 * j < s.length by omega), Option.bind_some]
      have e4 := J6K (l := s) (k := 12 + 13 * j) (by omega)
      generalize hv : (s[12 + 13 * j]'(by omega)).toNat = v at e3 e4 hu
      have e5 : IntKind.wrap .i64 ((v : Nat) : Int) = ((v : Nat) : Int) := J05 (by omega) (by omega)
      have e6 := J1l (show j < 1000000 by omega)
      simp only [J0A, e1, decide_true, if_true, e2, e3, Option.bind_some, e6] at e
      simp only [J55, e1, decide_true, if_true, e2, e4, Option.bind_some, e5, J6y, e6]
      split at e
      · rename_i h255
        injection e with e; injection e with e; subst e
        exact ⟨_, by rw [if_pos h255], rfl, j + 1, rfl, by omega⟩
      · rename_i h255
        rw [if_neg h255]
        split at e
        · cases e
        · rename_i h12
          rw [if_neg h12]
          simp only [Option.bind_eq_some_iff, Option.some.injEq, Sum.inl.injEq] at e
          obtain ⟨m, hm, u, hu1, y, hy, rfl⟩ := e
          exact ⟨_, by simp only [hm, hu1, hy, Option.bind_some], rfl, j + 1, rfl, by omega⟩
    · have e1 : ¬ ((j : Nat) : Int) < 16 := by omega
      simp only [J0A, e1, decide_false, Bool.false_eq_true, if_false, J4y, Option.map_some] at e
      cases e
  · by_cases hlt : j < 16
    · have e1 : ((j : Nat) : Int) < 16 := by omega
      have e2 : IntKind.wrap .i64 (12 + IntKind.wrap .i64 ((j : Int) * 13)) = ((12 + 13 * j : Nat) : Int) := by
        rw [J05 (n := (j : Int) * 13) (by omega) (by omega), J05 (by omega) (by omega)]; omega
      have hu : (s[12 + 13 * j]'(by omega)).toNat < 256 := UInt8.toNat_lt _
      have e3 : JM s ((12 + 13 * j : Nat) : Int) 1 = some (((s[12 + 13 * j]'(by omega)).toNat : Nat) : Int) := by
        simp only [JM, Jdm s (by omega) (show 12 + 13 * j < s.length by omega), Option.bind_some]
      have e4 := J6K (l := s) (k := 12 + 13 * j) (by omega)
      generalize hv : (s[12 + 13 * j]'(by omega)).toNat = v at e3 e4 hu
      have e5 : IntKind.wrap .i64 ((v : Nat) : Int) = ((v : Nat) : Int) := J05 (by omega) (by omega)
      simp only [J0A, e1, decide_true, if_true, e2, e3, Option.bind_some] at e
      simp only [J55, e1, decide_true, if_true, e2, e4, Option.bind_some, e5, J6y]
      split at e
      · cases e
      · rename_i h255
        rw [if_neg h255]
        split at e
        · rename_i h12
          injection e with e; injection e with e; subst e
          exact ⟨_, by rw [if_pos h12], by simp⟩
        · simp only [Option.bind_eq_some_iff, Option.some.injEq] at e
          obtain ⟨_, _, _, _, _, _, e⟩ := e
          cases e
    · have e1 : ¬ ((j : Nat) : Int) < 16 := by omega
      simp only [J0A, e1, decide_false, Bool.false_eq_true, if_false, J4y, Option.map_some, Option.some.injEq, Sum.inr.injEq] at e
      subst e
      have ht : ∃ r', J46 s p0 p = some r' := by
        unfold J46
        rw [Ji0]
        obtain ⟨x, hx⟩ := JhO p
        rw [hx, Option.bind_some]
        split
        · exact ⟨_, rfl⟩
        · split <;> exact ⟨_, rfl⟩
      obtain ⟨r', hr'⟩ := ht
      exact ⟨r', by simp only [J55, e1, decide_false, Bool.false_eq_true, if_false, hr', Option.map_some], by simpa using hr'⟩
theorem Jnw (s : List UInt8) : J9s s = J0M s := by
  unfold J9s J0M
  by_cases hs : s.length = 256
  · have e0 : (((s.length : Nat) : Int) != 256) = false := by rw [hs]; rfl
    have e3 : J22 s none (some 244) = some (s.take 244) := Jbm s (b := 244) (by omega)
    have e1 : J22 s none (some 8) = some (s.take 8) := Jbm s (b := 8) (by omega)
    have e2 : J22 s (some 248) none = some (s.drop 248) := Jdq s (a := 248) (by omega)
    have g1 : J4R s 244 4 = J0o s 244 4 := Jj1 s 244 (k := 4) (by omega) (by omega)
    have g2 : J4R s 0 8 = J0o s 0 8 := Jj1 s 0 (k := 8) (by omega) (by omega)
    have g3 : J4R s 8 4 = J0o s 8 4 := Jj1 s 8 (k := 4) (by omega) (by omega)
    have c1 := Jn9 (s.take 244) (by simp; omega)
    have c2 := Jlh (s.take 244) (by simp; omega)
    have hc := JlR (s.take 244)
    obtain ⟨n1, x1, k1, l1⟩ := JrB s (by omega) (at_ := 244) (k := 4) (by omega) (by omega) (by omega)
    have k1' : J0o s 244 4 = some ((n1 : Int), x1) := k1
    obtain ⟨n2, k2⟩ := J99 s (by omega) (at_ := 0) (k := 8) (by omega) (by omega) (by omega)
    have k2' : JM s 0 8 = some n2 := k2
    obtain ⟨x2, k2''⟩ := Jid k2'
    obtain ⟨n3, k3⟩ := J99 s (by omega) (at_ := 8) (k := 4) (by omega) (by omega) (by omega)
    have k3' : JM s 8 4 = some n3 := k3
    obtain ⟨x3, k3''⟩ := Jid k3'
    have m1 : JM s 244 4 = some (n1 : Int) := by simp only [JM, k1', Option.bind_some]
    have w1 : IntKind.wrap .u32 (n1 : Int) = (n1 : Int) := J9v n1 l1
    have w2 : IntKind.wrap .i64 ((crc (s.take 244) : Nat) : Int) = ((crc (s.take 244) : Nat) : Int) := J05 (by omega) (by omega)
    obtain ⟨p, hp⟩ := Jl2 s hs
    simp only [e0, Bool.false_eq_true, if_false, Jjm, J81, Option.bind_some, e1, e2, e3, g1, g2, g3, c1, c2, k1', k2'', k3'', m1, w1, w2, hp]
    split
    · rfl
    · split
      · split
        · rfl
        · have hp' : J8a s ⟨0, 0, Vector.replicate 16 ⟨false, []⟩⟩ (0, ⟨n3, n2, Vector.replicate 16 ⟨false, []⟩⟩) = some p := by
            have := hp
            unfold J2Y at this
            simpa only [k3', k2', Option.bind_some] using this
          obtain ⟨r', hr1, hr2⟩ := JpU hs _ _ ⟨0, rfl, by omega⟩ hp'
          rw [hr1]
          obtain ⟨x, hx⟩ := JhO p.1
          rw [hx, Option.bind_some]
          by_cases hb : p.2 = true
          · rw [if_pos hb] at hr2 ⊢
            rw [← hr2]
            unfold J46
            rw [Ji0, hx, Option.bind_some]
          · rw [if_neg hb] at hr2 ⊢
            rw [hr2]
      · rfl
  · have e0 : (((s.length : Nat) : Int) != 256) = true := by simp; omega
    simp only [e0, if_true]
theorem Ji5 (s : List UInt8) : ∃ r, J0M s = some r := by
  by_cases hs : s.length = 256
  · obtain ⟨r, h, _⟩ := Jnx s hs
    exact ⟨r, h⟩
  · have e0 : (((s.length : Nat) : Int) != 256) = true := by simp; omega
    unfold J0M
    simp only [e0, if_true]
    exact ⟨_, rfl⟩
theorem JmL {s : List UInt8} {r : T_api_Page × Int} (h : J0M s = some r) (h0 : r.2 ≠ 0) : r.1 = ⟨0, 0, Vector.replicate 16 ⟨false, []⟩⟩ := by
  unfold J0M at h
  split at h
  · injection h with h; subst h; rfl
  · obtain ⟨_, _, h⟩ := Option.bind_eq_some_iff.1 h
    split at h
    · injection h with h; subst h; rfl
    · simp only [Option.bind_eq_some_iff] at h
      obtain ⟨_, _, _, _, h⟩ := h
      split at h
      · simp only [Option.bind_eq_some_iff] at h
        obtain ⟨_, _, _, _, _, _, h⟩ := h
        split at h
        · injection h with h; subst h; rfl
        · simp only [Option.bind_eq_some_iff] at h
          obtain ⟨_, _, _, _, h⟩ := h
          split at h
          · split at h
            · injection h with h; subst h; rfl
            · split at h
              · injection h with h; subst h; exact (h0 rfl).elim
              · injection h with h; subst h; rfl
          · injection h with h; subst h; rfl
      · injection h with h; subst h; rfl
theorem JlG (s : List UInt8) (k : Int) : J8m s k = J17 s k := by
  unfold J8m J17 J1e
  obtain ⟨r, hr⟩ := Ji5 s
  simp only [Jnw, hr, Option.bind_some]
  by_cases h1 : k < 0
  · have h2 : ¬ k ≥ 0 := by omega
    simp only [h1, h2, decide_true, decide_false, if_true, Bool.false_eq_true, if_false, Option.bind_some]
  · have h2 : k ≥ 0 := by omega
    by_cases h3 : k ≥ 64
    · have h4 : ¬ k < 64 := by omega
      simp only [h1, h2, h3, h4, decide_true, decide_false, if_true, Bool.false_eq_true, if_false, Option.bind_some]
    · have h4 : k < 64 := by omega
      simp only [h1, h2, h3, h4, decide_true, decide_false, if_true, Bool.false_eq_true, if_false, Option.bind_some, JrY]
      split
      · rfl
      · by_cases h0 : r.2 = 0
        · have d1 : (r.2 == 0) = true := by simpa using h0
          have d2 : (r.2 != 0) = false := by simp [h0]
          simp only [d1, d2, if_true, Bool.false_eq_true, if_false]
          rw [h0]
        · have d1 : (r.2 == 0) = false := by simpa using h0
          have d2 : (r.2 != 0) = true := by simpa using h0
          simp only [d1, d2, if_true, Bool.false_eq_true, if_false]
          rw [← JmL hr h0]
theorem JlS (s : List UInt8) (k : Int) : ∃ r, J17 s k = some r := by
  unfold J17 J1e
  obtain ⟨r, hr⟩ := Ji5 s
  simp only [hr, Option.bind_some]
  by_cases h1 : k ≥ 0
  · simp only [h1, decide_true, if_true, Option.bind_some]
    split
    · split
      · exact ⟨_, rfl⟩
      · split
        · exact ⟨_, rfl⟩
        · split <;> exact ⟨_, rfl⟩
    · exact ⟨_, rfl⟩
  · simp only [h1, decide_false, Bool.false_eq_true, if_false, Option.bind_some]
    exact ⟨_, rfl⟩
end Go.Am
end
section
namespace Go.Am
set_option maxRecDepth 16000
theorem JpJ {b : T_pagemenddraw_Codes} (hb : J0K b) {n : Int} (h1 : 1 ≤ n) (h2 : n ≤ 65536) : ∃ r b', JR b n = some (r, b') ∧ J0K b' ∧ 0 ≤ r ∧ r < n := by
  by_cases hn : n ≤ 256
  · exact J5p hb h1 hn
  · by_cases hc : b.at_ ≥ (b.l_.length : Int)
    · refine ⟨0, b, ?_, hb, by omega, by omega⟩
      show J0Q (11 + 1) b n = _
      simp only [J0Q, J2h, hc, decide_true, if_true]
    · obtain ⟨ha, hb1, hl, hx⟩ := hb
      obtain ⟨k, hk⟩ : ∃ k : Nat, b.at_ = (k : Int) := ⟨b.at_.toNat, by omega⟩
      have hk2 : k < b.l_.length := by omega
      have hy := hx _ (List.getElem_mem hk2)
      have e1 : ¬ n < 1 := by omega
      have e2 : n > 256 := by omega
      have e3 : idx b.l_ b.at_ = some b.l_[k] := by rw [hk, JiS, List.getElem?_eq_getElem hk2]
      have hb' : J0K ⟨b.l_, b.at_ + 1⟩ := ⟨by show 0 ≤ b.at_ + 1; omega, by show b.at_ + 1 ≤ (b.l_.length : Int); omega, hl, hx⟩
      obtain ⟨r, b2, e4, hb2, hr0, hr1⟩ := JhM hb' (n := 256) (by omega) (by omega) 10
      have e5 : IntKind.wrap .i64 (b.at_ + 1) = b.at_ + 1 := J05 (by omega) (by omega)
      have e6 : IntKind.wrap .i64 (IntKind.wrap .i64 (256 * IntKind.wrap .i64 b.l_[k]) + r) = 256 * b.l_[k] + r := by
        rw [J05 (n := b.l_[k]) (by omega) (by omega), J05 (n := 256 * b.l_[k]) (by omega) (by omega), J05 (by omega) (by omega)]
      have e7 : ¬ n = 0 := by omega
      refine ⟨(256 * b.l_[k] + r).tmod n, b2, ?_, hb2, Int.tmod_nonneg _ (by omega), Int.tmod_lt_of_pos _ (by omega)⟩
      show J0Q (11 + 1) b n = _
      have e8 : J0Q 11 ⟨b.l_, b.at_ + 1⟩ 256 = some (r, b2) := e4
      rw [show J0Q (11 + 1) = J2h (J0Q 11) from rfl]
      simp only [J2h, hc, e1, e2, e3, e5, e6, e8, decide_true, decide_false, if_true, Bool.false_eq_true, if_false, Option.bind_some, Jcb, e7]
theorem Jrp {l : List Int} (h : List.length l ≤ maxLen ∧ ∀ x ∈ l, 0 ≤ x ∧ x ≤ 255) {n : Nat} (hn : n ≤ 1000) : ∃ b, J5A l (n : Int) = some b ∧ J0K b := JsD h.2 hn
theorem JhU {α ρ : Type} {f : Int → Option (Int ⊕ ρ)} {l : List α} {out : ρ} (hl : l.length < 1000000) (h1 : ∀ (k : Nat) (h : k < l.length), f (k : Int) = some (.inl ((k + 1 : Nat) : Int))) (h2 : f (l.length : Int) = some (.inr out)) : JQ f 0 = some out := by
  obtain ⟨b, hb, rfl⟩ := J1i (f := f) (fun q => ∃ j : Nat, q = j ∧ j ≤ l.length) (fun q => (l.length - q).toNat) (fun b => b = out) (fun q ⟨j, hj, h4⟩ => by
    subst hj
    by_cases hlt : j < l.length
    · left
      exact ⟨((j + 1 : Nat) : Int), h1 j hlt, ⟨j + 1, rfl, by omega⟩, by omega⟩
    · right
      obtain rfl : j = l.length := by omega
      exact ⟨out, h2, rfl⟩) 0 ⟨0, rfl, by omega⟩
  exact hb
theorem Jkr {p : T_api_Page} (hp : J3v p) {k : Int} (h0 : 0 ≤ k) (h1 : k < 64) : J17 (J9G p) k = some (if p.ID = k then (p, 0) else (⟨0, 0, Vector.replicate 16 ⟨false, []⟩⟩, 6)) := by
  obtain ⟨s, e1, e2, e3⟩ := Jmv hp
  rw [JbL hp] at e1
  injection e1 with e1; injection e1 with e1 _; subst e1
  have e0 : J1e k = some true := by simp [J1e, h0, h1]
  unfold J17
  simp only [e0, e3, Option.bind_some, if_true]
  by_cases hk : p.ID = k
  · have d1 : (p.ID != k) = false := by simp [hk]
    simp only [d1, Bool.false_eq_true, if_false, if_pos hk]
    rfl
  · have d1 : (p.ID != k) = true := by simpa using hk
    simp only [d1, if_true, if_neg hk]
    rfl
theorem Jji {k : Int} (h0 : 0 ≤ k) (h1 : k < 64) : J17 blk k = some (⟨k, 0, Vector.replicate 16 ⟨false, []⟩⟩, 0) := by
  have e0 : J1e k = some true := by simp [J1e, h0, h1]
  have e1 : J0M blk = some (⟨0, 0, Vector.replicate 16 ⟨false, []⟩⟩, 7) := by
    unfold J0M
    have e2 : (((blk.length : Nat) : Int) != 256) = false := by rw [JrG]; rfl
    simp only [e2, Bool.false_eq_true, if_false, J81, Option.bind_some, beq_self_eq_true, if_true]
  unfold J17
  simp only [e0, e1, Option.bind_some, if_true, beq_self_eq_true]
  rfl
end Go.Am
end
section
namespace Go.Am
set_option maxRecDepth 16000
structure Jdg (r : Jq) : Prop where
  l0 : 0 ≤ r.LSN
  l1 : r.LSN ≤ 1099511627776
  i0 : 0 ≤ r.Image
  i1 : r.Image ≤ 1099511627776
  m0 : 0 ≤ r.ImageLSN
  m1 : r.ImageLSN ≤ 1099511627776
  im : r.Image = 0 → r.ImageLSN = 0
def JeX (l : List Jq) : Prop := ∀ r ∈ l, Jdg r
structure Jdr (x : Ji) : Prop where
  n1 : 1 ≤ x.Rows.length
  n2 : x.Rows.length ≤ 64
  rows : JeX x.Rows
theorem JqW {l : List Jq} {k : Nat} {r : Jq} (h : JeX l) (hr : Jdg r) : JeX (l.set k r) := by
  intro q hq
  rcases List.mem_or_eq_of_mem_set hq with h1 | rfl
  · exact h _ h1
  · exact hr
theorem J6N {α : Type} {l : List α} {k : Nat} (h : k < l.length) : idx l (k : Int) = some l[k] := by
  rw [JiS, List.getElem?_eq_getElem h]
theorem Jcc {n : Int} (h0 : 0 ≤ n) (h1 : n ≤ 1099511627776) : J0E n = some true := by
  simp [J0E, h0, h1]
theorem JpA {r : Jq} (h : Jdg r) : J1g r = some false := by
  unfold J1g
  simp only [Jcc h.l0 h.l1, Jcc h.i0 h.i1, Jcc h.m0 h.m1, Option.bind_some, if_true]
  by_cases hi : r.Image = 0
  · simp [hi, h.im hi]
  · simp [hi]
theorem Jcg {x : Ji} (h : Jdr x) : J1s x = some true := by
  have n1 := h.n1; have n2 := h.n2
  have e : J01 x.Rows = some (-1) := by
    refine JhU (f := fun s => Jv x.Rows (x.Rows.length : Int) s) (l := x.Rows) (by omega) (fun k hk => ?_) ?_
    · have e1 : ((k : Nat) : Int) < (x.Rows.length : Int) := by omega
      simp only [Jv, e1, decide_true, if_true, J6N hk, Option.bind_some, JpA (h.rows _ (List.getElem_mem hk)), Bool.false_eq_true, if_false, J1l (show k < 1000000 by omega)]
    · have e1 : ¬ ((x.Rows.length : Nat) : Int) < (x.Rows.length : Int) := by omega
      simp only [Jv, e1, decide_false, Bool.false_eq_true, if_false, J06, Option.map_some]
  have c1 : ((x.Rows.length : Nat) : Int) ≥ 1 := by omega
  have c2 : ((x.Rows.length : Nat) : Int) ≤ 64 := by omega
  have e3 : decide ((-1 : Int) ≥ 0) = false := rfl
  simp only [J1s, c1, c2, decide_true, if_true, JV, e, Option.bind_some, e3, Bool.not_false]
theorem Jp1 (n : Nat) : JeX (List.replicate n ⟨0, 0, 0⟩) := by
  intro r hr
  obtain rfl := (List.mem_replicate.1 hr).2
  exact ⟨by simp, by simp, by simp, by simp, by simp, by simp, fun _ => rfl⟩
theorem JrN {n : Nat} (h : n ≤ 64) : mkS 24 (n : Int) (n : Int) (⟨0, 0, 0⟩ : Jq) = some (List.replicate n ⟨0, 0, 0⟩) := by
  have e : (0 : Int) ≤ (n : Int) ∧ (n : Int) ≤ (n : Int) ∧ ((24 : Nat) : Int) * (n : Int) ≤ 281474976710656 ∧ (n : Int) ≤ 281474976710656 := by omega
  unfold mkS
  rw [if_pos e, Int.toNat_natCast]
theorem JjQ {n : Nat} (h1 : 1 ≤ n) (h2 : n ≤ 64) : J1W (n : Int) = some (⟨List.replicate n ⟨0, 0, 0⟩⟩, 0) := by
  have c1 : ¬ (n : Int) < 1 := by omega
  have c2 : ¬ (n : Int) > 64 := by omega
  simp only [J1W, c1, c2, decide_false, Bool.false_eq_true, if_false, JrN h2, Option.bind_some]
theorem Jhv {n : Nat} (h1 : 1 ≤ n) (h2 : n ≤ 64) : Jdr ⟨List.replicate n ⟨0, 0, 0⟩⟩ := ⟨by simpa using h1, by simpa using h2, Jp1 n⟩
theorem get_at {s pre post : List UInt8} {n at_ : Int} {k : Nat} (hs : s = pre ++ (JH n k ++ post)) (ha : at_ = (pre.length : Int)) (h1 : 1 ≤ k) (h8 : k ≤ 8) (h0 : 0 ≤ n) (hn : n.toNat < 2 ^ (8 * k)) (hn2 : n < 2 ^ 63) (hl : s.length ≤ 1000) :
    J0o s at_ (k : Int) = some (n, 0) := by
  obtain ⟨m, rfl⟩ : ∃ m : Nat, n = (m : Int) := ⟨n.toNat, by omega⟩
  subst hs ha
  exact Jfd pre post h1 h8 (by simpa using hn) (by omega) hl
end Go.Am
end
section
namespace Go.Am
set_option maxRecDepth 16000
theorem JnT {l : List Jq} (h : l.length ≤ 1000) : J1A l = some l := by
  have e : (2 * l.length + 512) * 24 ≤ 281474976710656 := by omega
  unfold J1A
  rw [if_pos e]
def Jay (n ref : Int) (k : Nat) : Ja := ⟨n, 7, 0, 0, 0, ref, ⟨(k : Int), 0, ⟨false, []⟩, ⟨false, []⟩⟩, []⟩
theorem Jmz {n ref : Int} {k : Nat} (h1 : 1 ≤ n) (h2 : n ≤ 1099511627776) (r0 : 0 ≤ ref) (r1 : ref < n) (hk : k < 64) : J4B (Jay n ref k) = some true := by
  have c1 : ¬ n < 1 := by omega
  have c2 : ¬ n > 1099511627776 := by omega
  have c3 : (0 : Int) < n := by omega
  have c4 : (k : Int) ≥ 0 := by omega
  have c5 : (k : Int) < 64 := by omega
  have c6 : ref ≥ 0 := r0
  simp [J4B, Jay, c1, c2, J39, c3, r0, r1, J5n, J5U, J5Z, J5W, J26, J43, c5]
def J8k (ref : Int) (r : Jq) : Jq := ⟨JeN r.LSN ref, r.Image, r.ImageLSN⟩
theorem JmZ {α : Type} {l : List α} {k : Nat} (h : k < l.length) (f : α → α) : l.set k (f l[k]) = l.modify k f := by
  apply List.ext_getElem?
  intro j
  rw [List.getElem?_modify]
  by_cases hj : k = j
  · subst hj
    rw [List.getElem?_set_self h, List.getElem?_eq_getElem h]; simp
  · rw [List.getElem?_set_ne hj]; simp [hj]
theorem Jlf {r : Jq} {ref : Int} (h : Jdg r) (r0 : 0 ≤ ref) (r1 : ref ≤ 1099511627776) : Jdg (J8k ref r) := by
  have e : 0 ≤ JeN r.LSN ref ∧ JeN r.LSN ref ≤ 1099511627776 := by
    have := h.l0; have := h.l1
    unfold JeN
    split <;> omega
  exact ⟨e.1, e.2, h.i0, h.i1, h.m0, h.m1, h.im⟩
theorem JoF {x : Ji} (h : Jdr x) {k : Nat} (hk : k < x.Rows.length) {f : Jq → Jq} (hf : ∀ r, Jdg r → Jdg (f r)) : Jdr ⟨x.Rows.modify k f⟩ := by
  refine ⟨by simpa using h.n1, by simpa using h.n2, ?_⟩
  show JeX (x.Rows.modify k f)
  rw [← JmZ hk]
  exact JqW h.rows (hf _ (h.rows _ (List.getElem_mem hk)))
theorem Jhf {x : Ji} {k : Nat} (hk : k < x.Rows.length) : J1t x (k : Int) = some true := by
  have c1 : (k : Int) ≥ 0 := by omega
  have c2 : (k : Int) < ((x.Rows.length : Nat) : Int) := by omega
  simp only [J1t, c1, c2, decide_true, if_true]
theorem Jj7 {x : Ji} (h : Jdr x) {n ref : Int} {k : Nat} (h1 : 1 ≤ n) (h2 : n ≤ 1099511627776) (r0 : 0 ≤ ref) (r1 : ref < n) (hk : k < x.Rows.length) :
    J1c x (Jay n ref k) = some (⟨x.Rows.modify k (J8k ref)⟩, 0) := by
  have h64 := h.n2
  have a1 := Jmz h1 h2 r0 r1 (k := k) (by omega)
  have a2 : J1t x (Jay n ref k).Change.Page = some true := Jhf hk
  have a3 : J0i x (Jay n ref k).Change.Page (Jay n ref k) = some ⟨x.Rows.modify k (J8k ref)⟩ := by
    show J0i x (k : Int) (Jay n ref k) = _
    have e : J3X x.Rows[k] (Jay n ref k) = some (J8k ref x.Rows[k]) := rfl
    simp only [J0i, JnT (show x.Rows.length ≤ 1000 by omega), Option.bind_some, J6N hk, e, Int.toNat_natCast, JmZ hk]
  have d : ((Jay n ref k).Kind != 7) = false := rfl
  simp only [J1c, Jcg h, a1, d, a2, a3, Option.bind_some, if_true, Bool.false_eq_true, if_false]
theorem Jmd : J4w = some true := by
  have z := Jhv (n := 2) (by omega) (by omega)
  have a1 : J1W 2 = some (⟨List.replicate 2 ⟨0, 0, 0⟩⟩, 0) := JjQ (n := 2) (by omega) (by omega)
  have a2 := Jj7 z (n := 9) (ref := 5) (k := 1) (by omega) (by omega) (by omega) (by omega) (by simp)
  have z2 := JoF z (k := 1) (by simp) (f := J8k 5) (fun r hr => Jlf hr (by omega) (by omega))
  have a3 := Jj7 z2 (n := 10) (ref := 3) (k := 1) (by omega) (by omega) (by omega) (by omega) (by simp)
  have e : (List.modify (List.modify (List.replicate 2 (⟨0, 0, 0⟩ : Jq)) 1 (J8k 5)) 1 (J8k 3)) = [⟨0, 0, 0⟩, ⟨5, 0, 0⟩] := by decide +kernel
  rw [e] at a3
  have d0 : ((0 : Int) == 0) = true := rfl
  have d1 : ((([(⟨0, 0, 0⟩ : Jq), ⟨5, 0, 0⟩].length : Nat) : Int) == 2) = true := rfl
  have d2 : idx [(⟨0, 0, 0⟩ : Jq), ⟨5, 0, 0⟩] 1 = some ⟨5, 0, 0⟩ := rfl
  unfold J4w
  simp only [a1, Option.bind_some]
  have a2' : J1c (⟨List.replicate 2 ⟨0, 0, 0⟩⟩ : Ji) (⟨9, 7, 0, 0, 0, 5, (⟨1, 0, (⟨false, ([] : List UInt8)⟩ : J5), (⟨false, ([] : List UInt8)⟩ : J5)⟩ : Jp), ([] : List UInt8)⟩ : Ja) = _ := a2
  rw [a2']
  simp only [Option.bind_some]
  have a3' : J1c (⟨(List.replicate 2 (⟨0, 0, 0⟩ : Jq)).modify 1 (J8k 5)⟩ : Ji) (⟨10, 7, 0, 0, 0, 3, (⟨1, 0, (⟨false, ([] : List UInt8)⟩ : J5), (⟨false, ([] : List UInt8)⟩ : J5)⟩ : Jp), ([] : List UInt8)⟩ : Ja) = _ := a3
  rw [a3']
  simp only [Option.bind_some, d0, if_true, d1, d2]
  rfl
end Go.Am
end
section
namespace Go.Am
set_option maxRecDepth 16000
theorem JjK {α ρ : Type} {f : Int → Option (Int ⊕ ρ)} {l : List α} (p : α → Bool) (hit : Nat → ρ) (out : ρ) (hl : l.length < 1000000)
    (h1 : ∀ (k : Nat) (h : k < l.length), f (k : Int) = some (if p l[k] = true then .inr (hit k) else .inl ((k + 1 : Nat) : Int))) (h2 : f (l.length : Int) = some (.inr out)) :
    JQ f 0 = some (match l.findIdx? p with
      | some k => hit k
      | none => out) := by
  have key : ∀ (n k : Nat), k + n = l.length → JQ f (k : Int) = some (match (l.drop k).findIdx? p with
      | some j => hit (k + j)
      | none => out) := by
    intro n
    induction n with
    | zero =>
      intro k hk
      obtain rfl : k = l.length := by omega
      rw [J2m h2]
      simp
    | succ n ih =>
      intro k hk
      have hlt : k < l.length := by omega
      have e := h1 k hlt
      rw [List.drop_eq_getElem_cons hlt, List.findIdx?_cons]
      by_cases hp : p l[k] = true
      · rw [if_pos hp] at e
        rw [J2m e, if_pos hp]
        rfl
      · rw [if_neg hp] at e
        rw [J34 e, ih (k + 1) (by omega), if_neg hp]
        cases (l.drop (k + 1)).findIdx? p with
        | none => rfl
        | some j => simp only [Option.map_some]; congr 2; omega
  have := key l.length 0 (by omega)
  simpa using this
theorem Jpj {α ρ : Type} {f : Int → Option (Int ⊕ ρ)} {l : List α} (q : α → Bool) (bad out : ρ) (hl : l.length < 1000000)
    (h1 : ∀ (k : Nat) (h : k < l.length), f (k : Int) = some (if q l[k] = true then .inl ((k + 1 : Nat) : Int) else .inr bad)) (h2 : f (l.length : Int) = some (.inr out)) :
    JQ f 0 = some (if l.all q = true then out else bad) := by
  have := JjK (f := f) (l := l) (fun x => !q x) (fun _ => bad) out hl (fun k h => by
    rw [h1 k h]
    cases q l[k] <;> rfl) h2
  rw [this]
  cases h : l.findIdx? (fun x => !q x) with
  | none =>
    rw [List.findIdx?_eq_none_iff] at h
    have : l.all q = true := List.all_eq_true.2 fun x hx => by simpa using h x hx
    rw [this]; rfl
  | some k =>
    obtain ⟨hk, h3, _⟩ := List.findIdx?_eq_some_iff_getElem.1 h
    have : l.all q ≠ true := fun h4 => by
      have := List.all_eq_true.1 h4 _ (List.getElem_mem hk)
      rw [this] at h3; cases h3
    rw [if_neg this]
theorem JqR {ρ : Type} (c : Bool) (a b : ρ) : (if c = true then some a else some b) = some (if c = true then a else b) := by cases c <;> rfl
end Go.Am
end
section
namespace Go.Am
set_option maxRecDepth 16000
def Tot {ρ : Type} (o : Option ρ) (Q : ρ → Prop) : Prop := ∃ r, o = some r ∧ Q r
theorem Tot.bind {α ρ : Type} {o : Option α} {f : α → Option ρ} {Q : α → Prop} {R : ρ → Prop} (h : Tot o Q) (h2 : ∀ r, Q r → Tot (f r) R) : Tot (o.bind f) R := by
  obtain ⟨r, rfl, hq⟩ := h
  exact h2 r hq
theorem Tot.some {ρ : Type} {r : ρ} {Q : ρ → Prop} (h : Q r) : Tot (some r) Q := ⟨r, rfl, h⟩
theorem Tot.eq {α ρ : Type} {o : Option α} {f : α → Option ρ} {v : α} {R : ρ → Prop} (h : o = Option.some v) (h2 : Tot (f v) R) : Tot (o.bind f) R := by
  subst h; exact h2
theorem Tot.ite {ρ : Type} {c : Bool} {a b : Option ρ} {Q : ρ → Prop} (h1 : c = true → Tot a Q) (h2 : c = false → Tot b Q) : Tot (if c = true then a else b) Q := by
  cases c with
  | true => exact h1 rfl
  | false => exact h2 rfl
theorem Tot.both {ρ : Type} {c : Bool} {a b : Option ρ} {Q : ρ → Prop} (h1 : Tot a Q) (h2 : Tot b Q) : Tot (if c = true then a else b) Q := .ite (fun _ => h1) fun _ => h2
theorem Tot.mono {ρ : Type} {o : Option ρ} {Q R : ρ → Prop} (h : Tot o Q) (h2 : ∀ r, Q r → R r) : Tot o R := by
  obtain ⟨r, e, hq⟩ := h
  exact ⟨r, e, h2 r hq⟩
theorem Tot.map {α ρ : Type} {o : Option α} {f : α → ρ} {Q : α → Prop} {R : ρ → Prop} (h : Tot o Q) (h2 : ∀ r, Q r → R (f r)) : Tot (Option.map f o) R := by
  obtain ⟨r, rfl, hq⟩ := h
  exact ⟨f r, rfl, h2 r hq⟩
abbrev Drw {α : Type} (o : Option (α × T_pagemenddraw_Codes)) (Q : α → Prop) : Prop := Tot o fun r => J0K r.2 ∧ Q r.1
section
variable {b : T_pagemenddraw_Codes} (hb : J0K b)
include hb
theorem JaW {n : Int} (h1 : 1 ≤ n) (h2 : n ≤ 256) : Drw (JR b n) fun r => 0 ≤ r ∧ r < n := by
  obtain ⟨r, b', e, h3, h4, h5⟩ := J5p hb h1 h2
  exact ⟨_, e, h3, h4, h5⟩
theorem Jrs {n : Int} (h1 : 1 ≤ n) (h2 : n ≤ 65536) : Drw (JR b n) fun r => 0 ≤ r ∧ r < n := by
  obtain ⟨r, b', e, h3, h4, h5⟩ := JpJ hb h1 h2
  exact ⟨_, e, h3, h4, h5⟩
theorem Jpn {s : List UInt8} (hs : s.length ≤ 60000) : Drw (J71 b s) fun t => t.length ≤ s.length + 1 := by
  unfold J71
  by_cases h0 : s.length = 0
  · have d1 : (((s.length : Nat) : Int) == 0) = true := by rw [h0]; rfl
    rw [d1, if_pos rfl]
    exact .bind (JaW hb (by omega) (by omega)) fun r ⟨h, _⟩ => .some ⟨h, by simp [toStr]⟩
  · have d1 : (((s.length : Nat) : Int) == 0) = false := by simpa using h0
    rw [d1, if_neg (by decide)]
    refine .bind (Jrs hb (by omega) (by omega)) fun r1 ⟨h1, q1⟩ => ?_
    obtain ⟨r, b1⟩ := r1
    simp only at h1 q1 ⊢
    obtain ⟨k, rfl⟩ : ∃ k : Nat, r = (k : Int) := ⟨r.toNat, by omega⟩
    have hk : k < s.length := by omega
    have f1 := Jbm s (b := k) (by omega)
    have f2 : J22 s (some (IntKind.wrap .i64 ((k : Int) + 1))) none = some (s.drop (k + 1)) := by
      rw [J1l (by omega)]; exact Jdq s (a := k + 1) (by omega)
    have f3 : J37 (s.take k) (s.drop (k + 1)) = some (s.take k ++ s.drop (k + 1)) := J8y (by simp only [List.length_take, List.length_drop]; omega)
    have f4 : ∀ v : Int, J37 s (toStr [v]) = some (s ++ toStr [v]) := fun v => J8y (by simp [toStr]; omega)
    have f5 : ∀ v : Int, J37 (s.take k) (toStr [v]) = some (s.take k ++ toStr [v]) := fun v => J8y (by simp [toStr]; omega)
    have f6 : ∀ v : Int, J37 (s.take k ++ toStr [v]) (s.drop (k + 1)) = some (s.take k ++ toStr [v] ++ s.drop (k + 1)) := fun v => J8y (by simp [toStr]; omega)
    simp only [f1, f2, f3, f4, f5, f6, J6K hk, Option.bind_some]
    refine .bind (JaW h1 (by omega) (by omega)) fun r2 ⟨h2, q2⟩ => .both ?_ (.both ?_ ?_)
    · exact .some ⟨h2, by simp; omega⟩
    · exact .bind (JaW h2 (by omega) (by omega)) fun r3 ⟨h3, _⟩ => .some ⟨h3, by simp [toStr]⟩
    · exact .bind (JaW h2 (by omega) (by omega)) fun r3 ⟨h3, _⟩ => .some ⟨h3, by simp [toStr]; omega⟩
end
end Go.Am
end
section
namespace Go.Am
set_option maxRecDepth 16000
def J9W (n : Int) : Bool := decide (0 ≤ n) && decide (n ≤ 1099511627776)
def Jcf (r : Jq) : Bool := J9W r.LSN && (J9W r.Image && (J9W r.ImageLSN && !(r.Image == 0 && r.ImageLSN != 0)))
def JlD (x : Ji) : Bool := decide (1 ≤ x.Rows.length) && (decide (x.Rows.length ≤ 64) && x.Rows.all Jcf)
theorem JoT (n : Int) : J0E n = some (J9W n) := by
  unfold J0E J9W
  by_cases h : 0 ≤ n
  · have h' : n ≥ 0 := h
    simp only [h, h', decide_true, if_true, Bool.true_and]
  · have h' : ¬ n ≥ 0 := h
    simp only [h, h', decide_false, Bool.false_eq_true, if_false, Bool.false_and]
theorem Jsn (n : Int) : J9F n = some (J9W n) := JoT n
theorem Jtu (r : Jq) : J1g r = some (!Jcf r) := by
  unfold J1g Jcf
  simp only [JoT, Option.bind_some]
  cases J9W r.LSN <;> cases J9W r.Image <;> cases J9W r.ImageLSN <;> cases (r.Image == 0) <;> cases (r.ImageLSN != 0) <;> rfl
theorem Jrm (x : Ji) : J1s x = some (JlD x) := by
  unfold J1s JlD
  by_cases h1 : 1 ≤ x.Rows.length
  · have c1 : ((x.Rows.length : Nat) : Int) ≥ 1 := by omega
    by_cases h2 : x.Rows.length ≤ 64
    · have c2 : ((x.Rows.length : Nat) : Int) ≤ 64 := by omega
      have e : J01 x.Rows = _ := JjK (f := fun s => Jv x.Rows (x.Rows.length : Int) s) (l := x.Rows) (fun r => !Jcf r) (fun k => (k : Int)) (-1) (by omega)
        (fun k hk => by
          have e1 : ((k : Nat) : Int) < (x.Rows.length : Int) := by omega
          simp only [Jv, e1, decide_true, if_true, J6N hk, Option.bind_some, Jtu, JqR, J1l (show k < 1000000 by omega)])
        (by
          have e1 : ¬ ((x.Rows.length : Nat) : Int) < (x.Rows.length : Int) := by omega
          simp only [Jv, e1, decide_false, Bool.false_eq_true, if_false, J06, Option.map_some])
      simp only [c1, c2, h1, h2, decide_true, if_true, JV, e, Option.bind_some, Bool.true_and]
      congr 1
      cases h : x.Rows.findIdx? (fun r => !Jcf r) with
      | none =>
        rw [List.findIdx?_eq_none_iff] at h
        have : x.Rows.all Jcf = true := List.all_eq_true.2 fun r hr => by simpa using h r hr
        rw [this]; rfl
      | some k =>
        obtain ⟨hk, h3, _⟩ := List.findIdx?_eq_some_iff_getElem.1 h
        have : x.Rows.all Jcf = false := by
          rw [List.all_eq_false]
          exact ⟨_, List.getElem_mem hk, by simpa using h3⟩
        rw [this]
        have : ((k : Nat) : Int) ≥ 0 := by omega
        simp only [this, decide_true, Bool.not_true]
    · have c2 : ¬ ((x.Rows.length : Nat) : Int) ≤ 64 := by omega
      simp only [c1, c2, h1, h2, decide_true, decide_false, if_true, Bool.false_eq_true, if_false, Bool.true_and, Bool.false_and]
  · have c1 : ¬ ((x.Rows.length : Nat) : Int) ≥ 1 := by omega
    simp only [c1, h1, decide_false, Bool.false_eq_true, if_false, Bool.false_and]
theorem Jqq (x : Ji) : Ja3 x = some (JlD x) := by
  unfold Ja3 JlD
  by_cases h1 : 1 ≤ x.Rows.length
  · have c1 : ¬ ((x.Rows.length : Nat) : Int) < 1 := by omega
    by_cases h2 : x.Rows.length ≤ 64
    · have c2 : ¬ ((x.Rows.length : Nat) : Int) > 64 := by omega
      have e : JbE x 0 = _ := Jpj (f := fun s => J72 x s) (l := x.Rows) Jcf false true (by omega)
        (fun k hk => by
          have e1 : ((k : Nat) : Int) < (x.Rows.length : Int) := by omega
          simp only [J72, e1, decide_true, if_true, J6N hk, Option.bind_some, Jsn, J1l (show k < 1000000 by omega)]
          generalize x.Rows[k] = r
          unfold Jcf
          cases J9W r.LSN <;> cases J9W r.Image <;> cases J9W r.ImageLSN <;> cases (r.Image == 0) <;> cases (r.ImageLSN != 0) <;> rfl)
        (by
          have e1 : ¬ ((x.Rows.length : Nat) : Int) < (x.Rows.length : Int) := by omega
          simp only [J72, e1, decide_false, Bool.false_eq_true, if_false, JbC, Option.map_some])
      simp only [c1, c2, h1, h2, decide_true, decide_false, Bool.false_eq_true, if_false, e, Bool.true_and]
      cases x.Rows.all Jcf <;> rfl
    · have c2 : ((x.Rows.length : Nat) : Int) > 64 := by omega
      simp only [c1, c2, h1, h2, decide_true, decide_false, if_true, Bool.false_eq_true, if_false, Bool.true_and, Bool.false_and]
  · have c1 : ((x.Rows.length : Nat) : Int) < 1 := by omega
    simp only [c1, h1, decide_true, decide_false, if_true, Bool.false_and]
end Go.Am
end
section
namespace Go.Am
set_option maxRecDepth 16000
set_option maxHeartbeats 1000000
section
end
end Go.Am
end
section
namespace Go.Am
set_option maxRecDepth 16000
set_option maxHeartbeats 2000000
end Go.Am
end
section
namespace Go.Am
set_option maxRecDepth 16000
set_option maxHeartbeats 2000000
theorem Jmw {α ρ : Type} {f : Int → Option (Int ⊕ ρ)} {l : List α} {Q : ρ → Prop} (hl : l.length < 1000000) (h1 : ∀ (k : Nat) (h : k < l.length), f (k : Int) = some (.inl ((k + 1 : Nat) : Int)))
    (h2 : Tot (f (l.length : Int)) fun r => ∃ o, r = .inr o ∧ Q o) : Tot (JQ f 0) Q := by
  obtain ⟨r, e, o, rfl, hq⟩ := h2
  exact ⟨o, JhU hl h1 e, hq⟩
section
end
end Go.Am
end
section
namespace Go.Am
set_option maxRecDepth 16000
set_option maxHeartbeats 2000000
theorem JpI (x : Ji) (id head : Int) (s : List UInt8) : ∃ r, JS x id head s = some r ∧ Jah x id head s = some r := by
  unfold JS Jah
  simp only [Jrm, Jqq, Option.bind_some, J1t]
  cases JlD x
  · exact ⟨_, rfl, rfl⟩
  simp only [if_true]
  by_cases c1 : id < 0
  · have c1' : ¬ id ≥ 0 := by omega
    simp only [c1, c1', decide_true, decide_false, if_true, if_false, Bool.false_eq_true, Option.bind_some]
    exact ⟨_, rfl, rfl⟩
  have c1' : id ≥ 0 := by omega
  by_cases c2 : id < ((x.Rows.length : Nat) : Int)
  · have c2' : ¬ id ≥ ((x.Rows.length : Nat) : Int) := by omega
    simp only [c1, c1', c2, c2', decide_true, decide_false, if_true, if_false, Bool.false_eq_true, Option.bind_some]
    by_cases c3 : head < 0
    · simp only [c3, decide_true, if_true]
      exact ⟨_, rfl, rfl⟩
    simp only [c3, decide_false, if_false, Bool.false_eq_true]
    obtain ⟨r, e⟩ := JlS s id
    obtain ⟨k, rfl⟩ : ∃ k : Nat, id = (k : Int) := ⟨id.toNat, by omega⟩
    rw [JlG, e]
    have hk : k < x.Rows.length := by omega
    simp only [Option.bind_some, J6N hk]
    by_cases c4 : (r.2 != 0) = true
    · simp only [c4, if_true]
      exact ⟨_, rfl, rfl⟩
    simp only [c4, if_false, Bool.false_eq_true]
    by_cases c5 : r.1.LSN > head <;> by_cases c6 : r.1.LSN > x.Rows[k].LSN <;> by_cases c7 : r.1.LSN < x.Rows[k].LSN <;>
      simp only [c5, c6, c7, decide_true, decide_false, if_true, if_false, Bool.false_eq_true] <;> exact ⟨_, rfl, rfl⟩
  · have c2' : id ≥ ((x.Rows.length : Nat) : Int) := by omega
    simp only [c1, c1', c2, c2', decide_true, decide_false, if_true, if_false, Bool.false_eq_true, Option.bind_some]
    exact ⟨_, rfl, rfl⟩
abbrev Jr3 {ρ : Type} (k : Int) (o : Option ((Int × T_pagemenddraw_Codes) ⊕ ρ)) : Prop := Tot o fun r => ∃ b, r = .inl (IntKind.wrap .i64 (k + 1), b) ∧ J0K b
section
variable (x2 x3 : Int) (x4 x14 : List UInt8) (x66 : List Ji) (x67 x68 : Int) (x78 : List (List UInt8)) (x79 x80 : Int) (b3 : T_api_Page) {b1 : T_pagemenddraw_Codes} (b4 : Ji)
theorem j0 (x19 : List UInt8) (hb : J0K b1) {l : List (Vector Int 2)} (hn : l.length < 1000000) : Jr3 x80 (J77 x2 x3 x4 x14 x19 x66 x67 x68 x78 x79 x80 l ((l.length : Nat) : Int) b1 b3 b4 0) := by
  refine Jmw (f := fun s => J3m x2 x3 x4 x14 x19 x66 x67 x68 x78 x79 x80 l ((l.length : Nat) : Int) b1 b3 b4 s) hn (fun k hk => ?_) ?_
  · have e1 : ((k : Nat) : Int) < ((l.length : Nat) : Int) := by omega
    have v0 : J5i l[k] 0 = some l[k][0] := J2G _ 0 (by omega)
    have v1 : J5i l[k] 1 = some l[k][1] := J2G _ 1 (by omega)
    have i0 : inb 2 0 = some () := rfl
    have i1 : inb 2 1 = some () := rfl
    obtain ⟨r, d1, d2⟩ := JpI b4 l[k][0] l[k][1] x19
    simp only [J3m, e1, decide_true, if_true, J6N hk, Option.bind_some, v0, v1, i0, i1, d1, d2, bne_self_eq_false, beq_self_eq_true, Bool.false_eq_true, if_false, J1l (show k < 1000000 by omega)]
  · have e1 : ¬ ((l.length : Nat) : Int) < ((l.length : Nat) : Int) := by omega
    simp only [J3m, e1, decide_false, Bool.false_eq_true, if_false, J78, Option.map_some]
    exact .some ⟨_, rfl, b1, rfl, hb⟩
theorem JhZ {ρ α : Type} {f : Int × T_pagemenddraw_Codes → Option ((Int × T_pagemenddraw_Codes) ⊕ ρ)} {l : List α} {Q : ρ → Prop} (hl : l.length < 1000000)
    (h1 : ∀ (k : Nat) (b : T_pagemenddraw_Codes), k < l.length → J0K b → Tot (f ((k : Int), b)) fun r => ∃ b', r = .inl (IntKind.wrap .i64 ((k : Int) + 1), b') ∧ J0K b')
    (h2 : ∀ b, J0K b → Tot (f ((l.length : Int), b)) fun r => ∃ o, r = .inr o ∧ Q o) {b : T_pagemenddraw_Codes} (hb : J0K b) : Tot (JQ f ((0 : Int), b)) Q := by
  obtain ⟨o, ho, hq⟩ := J1i (f := f) (fun s => ∃ j : Nat, s.1 = j ∧ j ≤ l.length ∧ J0K s.2) (fun s => (l.length - s.1).toNat) (fun o => Q o) (fun s ⟨j, hj, h4, hc⟩ => by
    obtain ⟨q, c⟩ := s
    simp only at hj hc
    subst hj
    by_cases hlt : j < l.length
    · left
      obtain ⟨r, e, b', rfl, hb'⟩ := h1 j c hlt hc
      rw [J1l (by omega)] at e
      exact ⟨_, e, ⟨j + 1, rfl, by omega, hb'⟩, by show ((l.length : Int) - ((j + 1 : Nat) : Int)).toNat < ((l.length : Int) - (j : Int)).toNat; omega⟩
    · right
      have hj : j = l.length := by omega
      subst hj
      obtain ⟨r, e, o, rfl, hq⟩ := h2 c hc
      exact ⟨o, e, hq⟩) ((0 : Int), b) ⟨0, rfl, by omega, hb⟩
  exact ⟨o, ho, hq⟩
theorem j2 (hb : J0K b1) {l : List (List UInt8)} (hn : l.length < 1000000) : Jr3 x68 (J76 x2 x3 x4 x14 x66 x67 x68 l ((l.length : Nat) : Int) b3 b4 (0, b1)) := by
  refine JhZ (f := fun s => J3n x2 x3 x4 x14 x66 x67 x68 l ((l.length : Nat) : Int) b3 b4 s.1 s.2) hn (fun k b hk hc => ?_) (fun b hc => ?_) hb
  · have e1 : ((k : Nat) : Int) < ((l.length : Nat) : Int) := by omega
    simp only [J3n, e1, decide_true, if_true]
    exact .eq (J6N hk) (.bind (JaW hc (by omega) (by omega)) fun r1 ⟨h1, _⟩ => .bind (JaW h1 (by omega) (by omega)) fun r2 ⟨h2, _⟩ => .bind (JaW h2 (by omega) (by omega)) fun r3 ⟨h3, _⟩ =>
      j0 x2 x3 x4 x14 x66 x67 x68 l ((l.length : Nat) : Int) k b3 b4 _ h3 (by simp))
  · have e1 : ¬ ((l.length : Nat) : Int) < ((l.length : Nat) : Int) := by omega
    simp only [J3n, e1, decide_false, Bool.false_eq_true, if_false, J74, Option.map_some]
    exact .some ⟨_, rfl, b, rfl, hc⟩
theorem j4 (hb : J0K b1) (h14 : x14.length ≤ 60000) {l : List Ji} (hn : l.length < 1000000) : Tot (Jav x2 x3 x4 x14 l ((l.length : Nat) : Int) b3 (0, b1)) fun r => r = true := by
  refine JhZ (f := fun s => J3o x2 x3 x4 x14 l ((l.length : Nat) : Int) b3 s.1 s.2) hn (fun k b hk hc => ?_) (fun b hc => ?_) hb
  · have e1 : ((k : Nat) : Int) < ((l.length : Nat) : Int) := by omega
    simp only [J3o, e1, decide_true, if_true]
    exact .eq (J6N hk) (.bind (Jpn hc h14) fun r1 ⟨h1, _⟩ => .eq Jjm (j2 x2 x3 x4 x14 l ((l.length : Nat) : Int) k b3 _ h1 (by simp)))
  · have e1 : ¬ ((l.length : Nat) : Int) < ((l.length : Nat) : Int) := by omega
    simp only [J3o, e1, decide_false, Bool.false_eq_true, if_false, J79, Option.map_some]
    exact .some ⟨_, rfl, rfl⟩
end
theorem J9K {x : Ji} (hx : Jdr x) {k : Nat} (hk : k < x.Rows.length) {head : Int} (hh : 0 ≤ head) {p : T_api_Page} (hp : J3v p) :
    ∃ q, JS x (k : Int) head (J9G p) = some q ∧
      (p.ID ≠ k → q.2 = 6) ∧ (p.ID = k → p.LSN > head → p.LSN > x.Rows[k].LSN → q.2 = 9) ∧ (p.ID = k → p.LSN ≤ head → p.LSN < x.Rows[k].LSN → q.2 = 8) ∧ (p.ID = k → p.LSN ≤ head → ¬ p.LSN < x.Rows[k].LSN → q = (p, 0)) := by
  have h64 := hx.n2
  unfold JS
  have c3 : ¬ head < 0 := by omega
  simp only [Jcg hx, Jhf hk, Option.bind_some, if_true, c3, decide_false, Bool.false_eq_true, if_false, Jkr hp (show (0 : Int) ≤ (k : Int) by omega) (by omega), J6N hk]
  by_cases c : p.ID = k
  · simp only [if_pos c, bne_self_eq_false, Bool.false_eq_true, if_false]
    by_cases c5 : p.LSN > head <;> by_cases c6 : p.LSN > x.Rows[k].LSN <;> by_cases c7 : p.LSN < x.Rows[k].LSN <;>
      simp only [c5, c6, c7, decide_true, decide_false, if_true, if_false, Bool.false_eq_true] <;> refine ⟨_, rfl, ?_, ?_, ?_, ?_⟩ <;> intros <;> first | rfl | omega | contradiction
  · simp only [if_neg c]
    exact ⟨_, rfl, fun _ => rfl, fun h => absurd h c, fun h => absurd h c, fun h => absurd h c⟩
theorem Jme {x : Ji} (hx : Jdr x) {k : Nat} (hk : k < x.Rows.length) {head : Int} (hh : 0 ≤ head) (hr : 0 < x.Rows[k].LSN) :
    ∃ q, JS x (k : Int) head blk = some q ∧ q.2 = 8 := by
  have h64 := hx.n2
  unfold JS
  have c3 : ¬ head < 0 := by omega
  have c4 : ¬ (0 : Int) > head := by omega
  simp only [Jcg hx, Jhf hk, Option.bind_some, if_true, c3, decide_false, Bool.false_eq_true, if_false, Jji (show (0 : Int) ≤ (k : Int) by omega) (show (k : Int) < 64 by omega), J6N hk, bne_self_eq_false, c4]
  have c5 : (0 : Int) < x.Rows[k].LSN := hr
  simp only [c5, decide_true, if_true]
  exact ⟨_, rfl, rfl⟩
theorem JqH {n m : Int} {c : J5} (h : J3Y n c) (hm : m ≠ 0) : J3Y m c := ⟨h.1, h.2.1, fun _ => hm⟩
theorem JlZ {p : T_api_Page} (hp : J3v p) {n : Int} (h0 : 1 ≤ n) (h1 : n ≤ 1099511627776) : J3v ⟨p.ID, n, p.Cells⟩ :=
  ⟨hp.id0, hp.id1, by show 0 ≤ n; omega, h1, fun i h => JqH (hp.cells i h) (by show n ≠ 0; omega)⟩
theorem JbS {l : List Int} {o w : Int} (h : List.length l ≤ maxLen ∧ ∀ x ∈ l, 0 ≤ x ∧ x ≤ 255) (ho : 0 ≤ o ∧ o ≤ 255) (hw : 0 ≤ w ∧ w ≤ 255) : J2W l o w = some true := by
  obtain ⟨b0, a1, hb0⟩ := Jrp h (n := 200) (by omega)
  have a1' : J5A l 200 = some b0 := a1
  obtain ⟨p, b1, a2, hb1, hp, hpi⟩ := JjB hb0 (id := 1) (by omega) (by omega)
  obtain ⟨q, b2, a3, hb2, hq, hqi⟩ := JjB hb1 (id := 1) (by omega) (by omega)
  obtain ⟨o, rfl⟩ : ∃ k : Nat, o = (k : Int) := ⟨o.toNat, by omega⟩
  obtain ⟨w, rfl⟩ : ∃ k : Nat, w = (k : Int) := ⟨w.toNat, by omega⟩
  have m1 : o % 20 < 20 := Nat.mod_lt _ (by omega)
  have m2 : w % 20 < 20 := Nat.mod_lt _ (by omega)
  have r1 : Jcb (IntKind.wrap .i64 (o : Int)) 20 = some ((o % 20 : Nat) : Int) := by rw [J05 (by omega) (by omega)]; rfl
  have r2 : Jcb (IntKind.wrap .i64 (w : Int)) 20 = some ((w % 20 : Nat) : Int) := by rw [J05 (by omega) (by omega)]; rfl
  generalize o % 20 = i at *
  generalize w % 20 = j at *
  have w1 : IntKind.wrap .i64 (1 + (i : Int)) = 1 + (i : Int) := J05 (by omega) (by omega)
  have w2 : IntKind.wrap .i64 (1 + (i : Int) + 1) = 2 + (i : Int) := by rw [J05 (by omega) (by omega)]; omega
  have w3 : IntKind.wrap .i64 (2 + (i : Int) + (j : Int)) = 2 + (i : Int) + (j : Int) := J05 (by omega) (by omega)
  have w4 : IntKind.wrap .i64 (2 + (i : Int) + (j : Int) - 1) = 1 + (i : Int) + (j : Int) := by rw [J05 (by omega) (by omega)]; omega
  have hp' := JlZ hp (n := 1 + (i : Int)) (by omega) (by omega)
  have hq' := JlZ hq (n := 2 + (i : Int) + (j : Int)) (by omega) (by omega)
  have z := Jhv (n := 3) (by omega) (by omega)
  have a4 : J1W 3 = some (⟨List.replicate 3 ⟨0, 0, 0⟩⟩, 0) := JjQ (n := 3) (by omega) (by omega)
  have a5 := Jj7 z (n := 90) (ref := 2 + (i : Int) + (j : Int)) (k := 1) (by omega) (by omega) (by omega) (by omega) (by simp)
  have z2 := JoF z (k := 1) (by simp) (f := J8k (2 + (i : Int) + (j : Int))) (fun r hr => Jlf hr (by omega) (by omega))
  have a5' : J1c (⟨List.replicate 3 ⟨0, 0, 0⟩⟩ : Ji) (⟨90, 7, 0, 0, 0, 2 + (i : Int) + (j : Int), (⟨1, 0, (⟨false, ([] : List UInt8)⟩ : J5), (⟨false, ([] : List UInt8)⟩ : J5)⟩ : Jp), ([] : List UInt8)⟩ : Ja) = _ := a5
  have e : (List.modify (List.replicate 3 (⟨0, 0, 0⟩ : Jq)) 1 (J8k (2 + (i : Int) + (j : Int)))) = [⟨0, 0, 0⟩, ⟨2 + (i : Int) + (j : Int), 0, 0⟩, ⟨0, 0, 0⟩] := by
    have : JeN 0 (2 + (i : Int) + (j : Int)) = 2 + (i : Int) + (j : Int) := by unfold JeN; split <;> omega
    show [_, J8k (2 + (i : Int) + (j : Int)) ⟨0, 0, 0⟩, _] = _
    unfold J8k
    rw [this]
  rw [e] at a5' z2
  obtain ⟨j1, f1, _, _, g1, _⟩ := J9K z2 (k := 1) (by simp) (head := 2 + (i : Int) + (j : Int)) (by omega) hp'
  obtain ⟨j2, f2, g2⟩ := Jme z2 (k := 1) (by simp) (head := 2 + (i : Int) + (j : Int)) (by omega) (by show 0 < 2 + (i : Int) + (j : Int); omega)
  obtain ⟨j3, f3, g3, _⟩ := J9K z2 (k := 2) (by simp) (head := 0) (by omega) hq'
  obtain ⟨j4, f4, _, _, _, g4⟩ := J9K z2 (k := 1) (by simp) (head := 2 + (i : Int) + (j : Int)) (by omega) hq'
  obtain ⟨j5, f5, _, _, _, g5⟩ := J9K z (k := 1) (by simp) (head := 2 + (i : Int) + (j : Int)) (by omega) hq'
  obtain ⟨j6, f6, _, g6, _⟩ := J9K z (k := 1) (by simp) (head := 1 + (i : Int) + (j : Int)) (by omega) hq'
  have g1 := g1 hpi (by show 1 + (i : Int) ≤ 2 + (i : Int) + (j : Int); omega) (by show 1 + (i : Int) < 2 + (i : Int) + (j : Int); omega)
  have g3 := g3 (by show q.ID ≠ ((2 : Nat) : Int); rw [hqi]; decide)
  have g4 := g4 hqi (by show 2 + (i : Int) + (j : Int) ≤ 2 + (i : Int) + (j : Int); omega) (by show ¬ 2 + (i : Int) + (j : Int) < 2 + (i : Int) + (j : Int); omega)
  have g5 := g5 hqi (by show 2 + (i : Int) + (j : Int) ≤ 2 + (i : Int) + (j : Int); omega) (by show ¬ 2 + (i : Int) + (j : Int) < 0; omega)
  have g6 := g6 hqi (by show 2 + (i : Int) + (j : Int) > 1 + (i : Int) + (j : Int); omega) (by show 2 + (i : Int) + (j : Int) > 0; omega)
  subst g4 g5
  have f1' : JS ⟨[⟨0, 0, 0⟩, ⟨2 + (i : Int) + (j : Int), 0, 0⟩, ⟨0, 0, 0⟩]⟩ 1 (2 + (i : Int) + (j : Int)) (J9G ⟨p.ID, 1 + (i : Int), p.Cells⟩) = _ := f1
  have f2' : JS ⟨[⟨0, 0, 0⟩, ⟨2 + (i : Int) + (j : Int), 0, 0⟩, ⟨0, 0, 0⟩]⟩ 1 (2 + (i : Int) + (j : Int)) blk = _ := f2
  have f3' : JS ⟨[⟨0, 0, 0⟩, ⟨2 + (i : Int) + (j : Int), 0, 0⟩, ⟨0, 0, 0⟩]⟩ 2 0 (J9G ⟨q.ID, 2 + (i : Int) + (j : Int), q.Cells⟩) = _ := f3
  have f4' : JS ⟨[⟨0, 0, 0⟩, ⟨2 + (i : Int) + (j : Int), 0, 0⟩, ⟨0, 0, 0⟩]⟩ 1 (2 + (i : Int) + (j : Int)) (J9G ⟨q.ID, 2 + (i : Int) + (j : Int), q.Cells⟩) = _ := f4
  have f5' : JS ⟨List.replicate 3 ⟨0, 0, 0⟩⟩ 1 (2 + (i : Int) + (j : Int)) (J9G ⟨q.ID, 2 + (i : Int) + (j : Int), q.Cells⟩) = _ := f5
  have f6' : JS ⟨List.replicate 3 ⟨0, 0, 0⟩⟩ 1 (1 + (i : Int) + (j : Int)) (J9G ⟨q.ID, 2 + (i : Int) + (j : Int), q.Cells⟩) = _ := f6
  have d0 : ((0 : Int) != 0) = false := rfl
  have d6 : ((6 : Int) == 6) = true := rfl
  have d8 : ((8 : Int) == 8) = true := rfl
  have d9 : ((9 : Int) == 9) = true := rfl
  have d00 : ((0 : Int) == 0) = true := rfl
  unfold J2W
  simp only [Jmd, a1', a2, a3, r1, r2, w1, w2, w3, w4, JbL hp', JbL hq', a4, a5', J81, f1', f2', f3', f4', f5', f6', g1, g2, g3, g6, d0, d6, d8, d9, d00, beq_self_eq_true, Option.bind_some, if_true, if_false, Bool.false_eq_true]
end Go.Am
end
section
namespace Go.Am
section
variable (P : Program)
def J8J : Nat → TypeId → Bool
  | 0, _ => false
  | n + 1, t => match P.underlying t with
    | some .bool => true
    | some (.int _) => true
    | some .string => true
    | some (.slice e) => J8J n e && decide (t < P.types.size ∧ 0 < P.cellsOf e)
    | some (.struct fs) => fs.toList.all (fun f => J8J n f.type) && decide (t < P.types.size)
    | some (.array _ e) => J8J n e && decide (t < P.types.size)
    | _ => false
def J8T : Nat → TypeId → List PV → Prop
  | 0, _, _ => False
  | n + 1, t, pvs => match P.underlying t with
    | some .bool => ∃ b, pvs = [.b b]
    | some (.int k) => ∃ z, pvs = [.i k z] ∧ (Lit.int k z).wf = true
    | some .string => ∃ l, pvs = [.s l] ∧ l.length ≤ maxLen
    | some (.slice e) => ∃ rows, pvs = [.sl (P.cellsOf e) rows] ∧ rows.length ≤ maxLen ∧ ∀ row ∈ rows, row.length = P.cellsOf e ∧ J8T n e row
    | some (.struct fs) => pvs.length = P.cellsOf t ∧ ∀ f ∈ fs.toList, J8T n f.type ((pvs.drop f.offset).take (P.cellsOf f.type))
    | some (.array m e) => pvs.length = P.cellsOf t ∧ ∀ i, i < m → J8T n e ((pvs.drop (i * P.cellsOf e)).take (P.cellsOf e))
    | _ => False
end
section
variable {H : Type} {enc : TypeId × Value → H} {P : Program} {w : World} {base : Nat} {sp : Nat → Bool} {held : Bool}
def JnR (w : World) (pvs : List PV) (cs : List Value) : Prop :=
  pvs.length = cs.length ∧ ∀ (i : Nat) p v, pvs[i]? = some p → cs[i]? = some v → J0f w (fun r _ => r < w.heap.size) p v
theorem JjC {a : Addr} {v : Value} (h : w.cell? a = some v) : a.spot = none ∧ J0w w a.block a.off = some v ∧ a.block < w.heap.size := by
  unfold World.cell? at h
  unfold J0w
  split at h
  · rename_i c t fz hb
    split at h
    · cases h
    · rename_i hs
      refine ⟨by simpa using hs, by rw [hb]; exact h, ?_⟩
      have := Array.getElem?_eq_some_iff.1 hb
      exact this.1
  · cases h
theorem Jpg {a : Addr} {n : Nat} {cs : List Value} (h : w.cells? base a n = some cs) : cs.length = n ∧ ∀ i v, cs[i]? = some v → w.cell? (a.add i) = some v := by
  unfold World.cells? at h
  split at h
  · have hl := mapM_some_length h
    refine ⟨by simpa using hl, fun i v hv => ?_⟩
    have hi : i < n := by
      have := (List.getElem?_eq_some_iff.1 hv).1
      simp at hl; omega
    have := mapM_some_get h i i (by simp [hi])
    rw [this, hv]
  · cases h
theorem Jif {α : Type} (Q : Nat → α → Prop) : ∀ (m : Nat), (∀ i, i < m → ∃ x, Q i x) → ∃ xs : List α, xs.length = m ∧ ∀ i x, xs[i]? = some x → Q i x
  | 0, _ => ⟨[], rfl, fun i x h => by simp at h⟩
  | m + 1, h => by
    obtain ⟨xs, hl, hx⟩ := Jif Q m (fun i hi => h i (by omega))
    obtain ⟨y, hy⟩ := h m (by omega)
    refine ⟨xs ++ [y], by simp [hl], fun i x hi => ?_⟩
    rcases Nat.lt_or_ge i xs.length with hlt | hge
    · rw [List.getElem?_append_left hlt] at hi; exact hx i x hi
    · rw [List.getElem?_append_right hge] at hi
      have : i - xs.length = 0 := by
        have := (List.getElem?_eq_some_iff.1 hi).1
        simp at this; omega
      rw [this] at hi
      simp at hi; subst hi
      obtain rfl : i = m := by omega
      exact hy
theorem Jf1 {α : Type} : ∀ (xs : List (List α)) (j : Nat) (y : List α), xs[j]? = some y → (xs.flatten.drop ((xs.take j).map List.length).sum).take y.length = y
  | [], j, y, h => by simp at h
  | x :: xs, 0, y, h => by simp at h; subst h; simp
  | x :: xs, j + 1, y, h => by
    simp at h
    have := Jf1 xs j y h
    simp only [List.take_succ_cons, List.map_cons, List.sum_cons, List.flatten_cons, List.drop_length_add_append]
    exact this
theorem Jsl (hl : laidOutB P = true) (hm : mapsRowed P = true) : ∀ (n : Nat) (t : TypeId) (cs : List Value) (x : DataW H × List MemPlace) (fuel : Nat), J8J P n t = true → DataW.trod enc P w base sp held fuel t cs = some x →
    ∃ pvs, J8T P n t pvs ∧ JnR w pvs cs := by
  have K := kids_rows hl hm
  intro n
  induction n with
  | zero => intro t cs x fuel hp; simp [J8J] at hp
  | succ n ih =>
    intro t cs x fuel hp h
    unfold J8J at hp
    unfold J8T
    split at hp
    · rename_i ht
      obtain ⟨b, rfl, _⟩ := DataW.trod_bool ht h
      refine ⟨[.b b], by simp, rfl, fun i p v h1 h2 => ?_⟩
      match i with
      | 0 => simp at h1 h2; subst h1 h2; exact .b _
      | i + 1 => simp at h1
    · rename_i k ht
      obtain ⟨z, rfl, _, hwf⟩ := DataW.trod_int ht h
      refine ⟨[.i k z], by simpa using hwf, rfl, fun i p v h1 h2 => ?_⟩
      match i with
      | 0 => simp at h1 h2; subst h1 h2; exact .i _ _
      | i + 1 => simp at h1
    · rename_i ht
      obtain ⟨s, rfl, _, hsz⟩ := DataW.trod_string ht h
      refine ⟨[.s s.data.toList], ⟨_, rfl, by rw [Array.length_toList]; exact hsz⟩, rfl, fun i p v h1 h2 => ?_⟩
      match i with
      | 0 => simp at h1 h2; subst h1 h2; exact .s _
      | i + 1 => simp at h1
    · rename_i e ht
      simp only [Bool.and_eq_true, decide_eq_true_eq] at hp
      rcases DataW.trod_slice ht h with ⟨rfl, _⟩ | ⟨a, len, cap, elems, rest, n0, _, rfl, _, _, hlc, hcm, hel, hat, _⟩
      · refine ⟨[.sl (P.cellsOf e) []], ⟨[], rfl, Nat.zero_le _, by simp⟩, rfl, fun i p v h1 h2 => ?_⟩
        match i with
        | 0 => simp at h1 h2; subst h1 h2; exact .sl0 _ _ _
        | i + 1 => simp at h1
      ·
        have hrow : ∀ i, i < len → ∃ row : List PV, (row.length = P.cellsOf e ∧ J8T P n e row) ∧ ∀ j p, row[j]? = some p → ∃ v, w.cell? (a.add (i * P.cellsOf e) |>.add j) = some v ∧ J0f w (fun r _ => r < w.heap.size) p v := by
          intro i hi
          have h1 := hat i hi
          have h2 : ∃ y, elems[i]? = some y := ⟨_, List.getElem?_eq_getElem (by omega)⟩
          obtain ⟨y, hy⟩ := h2
          rw [hy, Option.bind_eq_some_iff] at h1
          obtain ⟨cs', hc, ht'⟩ := h1
          obtain ⟨row, q1, q2, q3⟩ := ih e cs' y n0 hp.1 ht'
          obtain ⟨c1, c2⟩ := Jpg hc
          refine ⟨row, ⟨by omega, q1⟩, fun j p hj => ?_⟩
          have hlt : j < cs'.length := by have := (List.getElem?_eq_some_iff.1 hj).1; omega
          have hv := List.getElem?_eq_getElem hlt
          exact ⟨_, c2 j _ hv, q3 j p _ hj hv⟩
        obtain ⟨rows, hrl, hrows⟩ := Jif _ len hrow
        refine ⟨[.sl (P.cellsOf e) rows], ⟨rows, rfl, by omega, fun row hr => ?_⟩, rfl, fun i p v h1 h2 => ?_⟩
        · obtain ⟨i, hi⟩ := List.getElem?_of_mem hr
          exact (hrows i row hi).1
        match i with
        | i + 1 => simp at h1
        | 0 =>
          simp at h1 h2; subst h1 h2
          by_cases h0 : ∃ (i j : Nat) (row : List PV) (p : PV), rows[i]? = some row ∧ row[j]? = some p
          · obtain ⟨i0, j0, row0, p0, hr0, hp0⟩ := h0
            have spot : a.spot = none ∨ P.cellsOf e = 0 := by
              rcases Nat.eq_zero_or_pos (P.cellsOf e) with hz | hpos
              · exact .inr hz
              · have hlen : 0 < len := by have := (List.getElem?_eq_some_iff.1 hr0).1; omega
                have hr00 := List.getElem?_eq_getElem (l := rows) (i := 0) (by omega)
                have q := hrows 0 _ hr00
                have hj0 := List.getElem?_eq_getElem (l := rows[0]'(by omega)) (i := 0) (by omega)
                obtain ⟨v, hv, _⟩ := q.2 0 _ hj0
                rw [Nat.zero_mul] at hv
                exact .inl (by simpa [Addr.add] using (JjC hv).1)
            rcases spot with spot | hz
            · have cell : ∀ (i j : Nat) (row : List PV) (p : PV), rows[i]? = some row → row[j]? = some p → ∃ v, (a.block < w.heap.size ∧ J0w w a.block (a.off + i * P.cellsOf e + j) = some v) ∧ J0f w (fun r _ => r < w.heap.size) p v := by
                intro i j row p hi hj
                obtain ⟨v, hv, hr⟩ := (hrows i row hi).2 j p hj
                obtain ⟨s1, s2, s3⟩ := JjC hv
                refine ⟨v, ?_, hr⟩
                have e1 : ((a.add (i * P.cellsOf e)).add j).block = a.block := by unfold Addr.add; split <;> split <;> rfl
                have e2 : ((a.add (i * P.cellsOf e)).add j).off = a.off + i * P.cellsOf e + j := by
                  unfold Addr.add
                  split <;> split <;> simp_all
                rw [e1] at s3
                rw [e1, e2] at s2
                exact ⟨s3, s2⟩
              have ea : a = ⟨a.block, a.off, none⟩ := by cases a; simp_all
              rw [ea, ← hrl]
              refine .sl _ rows a.block a.off cap (fun i j => ((J0w w a.block (a.off + i * P.cellsOf e + j)).getD default)) (by omega) (fun row hr => ?_) (fun i j row p hi hj => ?_) (fun i j row p hi hj => ?_)
              · obtain ⟨i, hi⟩ := List.getElem?_of_mem hr
                exact (hrows i row hi).1.1
              · obtain ⟨v, ⟨h3, h4⟩, _⟩ := cell i j row p hi hj
                exact ⟨h3, by rw [h4]; rfl⟩
              · obtain ⟨v, ⟨h3, h4⟩, h5⟩ := cell i j row p hi hj
                rw [h4]; exact h5
            · have := (hrows i0 row0 hr0).1.1
              have := (List.getElem?_eq_some_iff.1 hp0).1
              omega
          ·
            rcases Nat.eq_zero_or_pos len with hz | hpos
            · have : rows = [] := by cases rows <;> simp_all
              subst this
              subst hz
              exact .sl0 _ _ _
            · exfalso
              have hr00 := List.getElem?_eq_getElem (l := rows) (i := 0) (by omega)
              have q := (hrows 0 _ hr00).1.1
              exact h0 ⟨0, 0, _, _, hr00, List.getElem?_eq_getElem (by omega)⟩
    · rename_i fs ht
      simp only [Bool.and_eq_true, decide_eq_true_eq, List.all_eq_true] at hp
      obtain ⟨xs, n0, _, _, hcl, hxl, hat⟩ := DataW.trod_struct ht h
      obtain ⟨_, ksum, koff⟩ := K.struct hp.2 ht
      have hf : ∀ i, i < fs.toList.length → ∃ ys : List PV, ∀ f, fs.toList[i]? = some f → J8T P n f.type ys ∧ JnR w ys ((cs.drop f.offset).take (P.cellsOf f.type)) := by
        intro i hi
        have hfi := List.getElem?_eq_getElem hi
        have hmem := List.mem_of_getElem? hfi
        have hfa : fs[i]? = some (fs.toList[i]) := by rw [← Array.getElem?_toList]; exact hfi
        have h1 := hat i _ hfa
        have h2 : ∃ y, xs[i]? = some y := ⟨_, List.getElem?_eq_getElem (by simpa [hxl] using hi)⟩
        obtain ⟨y, hy⟩ := h2
        rw [hy] at h1
        obtain ⟨ys, q1, q2⟩ := ih _ _ _ _ (hp.1 _ hmem) h1
        refine ⟨ys, fun f hff => ?_⟩
        rw [hfi] at hff; injection hff with hff; subst hff
        exact ⟨q1, q2⟩
      obtain ⟨yss, hyl, hys⟩ := Jif _ _ hf
      have hlen : ∀ (j : Nat) (f : Field), fs.toList[j]? = some f → ∀ ys : List PV, yss[j]? = some ys → ys.length = P.cellsOf f.type := by
        intro j f hj ys hy
        have q := (hys j ys hy f hj).2.1
        have o := koff j f hj
        rw [q, List.length_take, List.length_drop, hcl, ksum, o]
        have : ((fs.toList.take j).map fun f => P.cellsOf f.type).sum + P.cellsOf f.type ≤ (fs.toList.map fun f => P.cellsOf f.type).sum := by
          have e1 : fs.toList = fs.toList.take j ++ (f :: fs.toList.drop (j + 1)) := by
            have hjl := (List.getElem?_eq_some_iff.1 hj)
            obtain ⟨hjl, he⟩ := hjl
            rw [← he, ← List.drop_eq_getElem_cons hjl, List.take_append_drop]
          conv => rhs; rw [e1]
          simp only [List.map_append, List.map_cons, List.sum_append, List.sum_cons]
          omega
        omega
      have hmapl : yss.map List.length = fs.toList.map fun f => P.cellsOf f.type := by
        apply List.ext_getElem?
        intro j
        rw [List.getElem?_map, List.getElem?_map]
        cases hy : yss[j]? with
        | none =>
          have : fs.toList[j]? = none := by rw [List.getElem?_eq_none_iff] at hy ⊢; omega
          rw [this]; rfl
        | some ys =>
          have hj : j < fs.toList.length := by have := (List.getElem?_eq_some_iff.1 hy).1; omega
          have hfj := List.getElem?_eq_getElem hj
          rw [hfj]
          simp only [Option.map_some]
          rw [hlen j _ hfj ys hy]
      have hoff : ∀ (j : Nat) (f : Field), fs.toList[j]? = some f → ((yss.take j).map List.length).sum = f.offset := by
        intro j f hj
        rw [koff j f hj, List.map_take, hmapl, ← List.map_take]
      refine ⟨yss.flatten, ⟨?_, fun f hf => ?_⟩, ?_, fun i p v h1 h2 => ?_⟩
      · rw [List.length_flatten, hmapl, ksum]
      · obtain ⟨j, hj⟩ := List.getElem?_of_mem hf
        have hjl : j < yss.length := by have := (List.getElem?_eq_some_iff.1 hj).1; omega
        have hyj := List.getElem?_eq_getElem hjl
        have := Jf1 yss j _ hyj
        rw [hoff j f hj, hlen j f hj _ hyj] at this
        rw [this]
        exact (hys j _ hyj f hj).1
      · rw [List.length_flatten, hmapl, hcl, ksum]
      ·
        have key : ∀ (l : List (List PV)) (i : Nat) p, l.flatten[i]? = some p → ∃ j ys k, l[j]? = some ys ∧ ys[k]? = some p ∧ i = ((l.take j).map List.length).sum + k := by
          intro l
          induction l with
          | nil => intro i p h; simp at h
          | cons y l ihl =>
            intro i p h
            rw [List.flatten_cons] at h
            rcases Nat.lt_or_ge i y.length with hlt | hge
            · rw [List.getElem?_append_left hlt] at h
              exact ⟨0, y, i, rfl, h, by simp⟩
            · rw [List.getElem?_append_right hge] at h
              obtain ⟨j, ys, k, a1, a2, a3⟩ := ihl _ _ h
              exact ⟨j + 1, ys, k, by simpa using a1, a2, by simp only [List.take_succ_cons, List.map_cons, List.sum_cons]; omega⟩
        obtain ⟨j, ys, k, a1, a2, a3⟩ := key _ _ _ h1
        have hj : j < fs.toList.length := by have := (List.getElem?_eq_some_iff.1 a1).1; omega
        have hfj := List.getElem?_eq_getElem hj
        have q := (hys j ys a1 _ hfj).2
        refine q.2 k p v a2 ?_
        have hk : k < P.cellsOf (fs.toList[j]).type := by have := (List.getElem?_eq_some_iff.1 a2).1; rw [hlen j _ hfj ys a1] at this; exact this
        rw [List.getElem?_take_of_lt hk, List.getElem?_drop, ← hoff j _ hfj, ← a3]
        exact h2
    · rename_i m e ht
      simp only [Bool.and_eq_true, decide_eq_true_eq] at hp
      obtain ⟨xs, n0, _, _, hcl, hxl, hat⟩ := DataW.trod_array ht h
      obtain ⟨_, ksz⟩ := K.array hp.2 ht
      have hf : ∀ i, i < m → ∃ ys : List PV, J8T P n e ys ∧ JnR w ys ((cs.drop (i * P.cellsOf e)).take (P.cellsOf e)) := by
        intro i hi
        have h1 := hat i hi
        have h2 : ∃ y, xs[i]? = some y := ⟨_, List.getElem?_eq_getElem (by omega)⟩
        obtain ⟨y, hy⟩ := h2
        rw [hy] at h1
        exact ih _ _ _ _ hp.1 h1
      obtain ⟨yss, hyl, hys⟩ := Jif _ _ hf
      have hlen : ∀ (j : Nat) ys, yss[j]? = some ys → ys.length = P.cellsOf e := by
        intro j ys hy
        have q := (hys j ys hy).2.1
        have hj : j < m := by have := (List.getElem?_eq_some_iff.1 hy).1; omega
        rw [q, List.length_take, List.length_drop, hcl, ksz]
        have : j * P.cellsOf e + P.cellsOf e ≤ m * P.cellsOf e := by rw [← Nat.succ_mul]; exact Nat.mul_le_mul_right _ hj
        omega
      have hall : ∀ y ∈ yss, y.length = P.cellsOf e := fun y hy => by
        obtain ⟨j, hj⟩ := List.getElem?_of_mem hy
        exact hlen j y hj
      have hsum : ∀ l : List (List PV), (∀ y ∈ l, y.length = P.cellsOf e) → (l.map List.length).sum = l.length * P.cellsOf e := by
        intro l
        induction l with
        | nil => intro _; simp
        | cons y l ihl => intro hh; simp [hh y (by simp), ihl (fun z hz => hh z (by simp [hz])), Nat.succ_mul, Nat.add_comm]
      have hoff : ∀ j, j ≤ m → ((yss.take j).map List.length).sum = j * P.cellsOf e := by
        intro j hj
        rw [hsum _ (fun y hy => hall y (List.mem_of_mem_take hy)), List.length_take, hyl, Nat.min_eq_left hj]
      refine ⟨yss.flatten, ⟨?_, fun j hj => ?_⟩, ?_, fun i p v h1 h2 => ?_⟩
      · rw [List.length_flatten, hsum _ hall, hyl, ksz]
      · have hyj := List.getElem?_eq_getElem (l := yss) (i := j) (by omega)
        have := Jf1 yss j _ hyj
        rw [hoff j (by omega), hlen j _ hyj] at this
        rw [this]
        exact (hys j _ hyj).1
      · rw [List.length_flatten, hsum _ hall, hcl, hyl, ksz]
      · have key : ∀ (l : List (List PV)) (i : Nat) p, l.flatten[i]? = some p → ∃ j ys k, l[j]? = some ys ∧ ys[k]? = some p ∧ i = ((l.take j).map List.length).sum + k := by
          intro l
          induction l with
          | nil => intro i p h; simp at h
          | cons y l ihl =>
            intro i p h
            rw [List.flatten_cons] at h
            rcases Nat.lt_or_ge i y.length with hlt | hge
            · rw [List.getElem?_append_left hlt] at h
              exact ⟨0, y, i, rfl, h, by simp⟩
            · rw [List.getElem?_append_right hge] at h
              obtain ⟨j, ys, k, a1, a2, a3⟩ := ihl _ _ h
              exact ⟨j + 1, ys, k, by simpa using a1, a2, by simp only [List.take_succ_cons, List.map_cons, List.sum_cons]; omega⟩
        obtain ⟨j, ys, k, a1, a2, a3⟩ := key _ _ _ h1
        have hj : j < m := by have := (List.getElem?_eq_some_iff.1 a1).1; omega
        have q := (hys j ys a1).2
        refine q.2 k p v a2 ?_
        have hk : k < P.cellsOf e := by have := (List.getElem?_eq_some_iff.1 a2).1; rw [hlen j ys a1] at this; exact this
        rw [List.getElem?_take_of_lt hk, List.getElem?_drop, ← hoff j (by omega), ← a3]
        exact h2
    · cases hp
end
end Go.Am
end
section
namespace Go.Am
open Go.ChangeShapes Go.WideShapes Go.ChangeAt Go.RowKit
def gh0 (w : World) : Gh := ⟨fun _ => none, fun r _ => r < w.heap.size⟩
theorem Jj2 (g : Gh) (w : World) (b r o : Nat) : ¬ Wr1 ⟨[], g, w⟩ b r o := by
  unfold Wr1; simp
theorem Jun (w : World) : Inv ⟨[], gh0 w, w⟩ where
  box := fun b cs h => by simp at h
  arr := fun b wm esz rows h => by simp at h
  apart := fun b1 b2 r o h => absurd h (Jj2 _ _ _ _ _)
  const := fun r o h => ⟨h, fun b => Jj2 _ _ _ _ _⟩
def JbN (w w' : World) : Prop := JaZ (fun _ _ => False) w w'
theorem JbN.kept {w w' : World} (h : JbN w w') (may : MemPlace → Prop) : w.keptBut w' may := by
  obtain ⟨h1, h2, h3, h4, h5⟩ := h
  refine ⟨h4, h5, fun i hi => ?_⟩
  have hg := Array.getElem?_eq_getElem hi
  cases hw : w.heap[i]? with
  | none => rw [hg] at hw; cases hw
  | some x =>
    cases x with
    | cells c e fz =>
      obtain ⟨c', q1, q2, q3⟩ := h2 i c e fz hw
      rw [q1]
      exact ⟨rfl, rfl, q2, fun j _ => q3 j (fun hf => hf)⟩
    | map es clock =>
      have := h3 i _ hw (fun c e fz he => by cases he)
      rw [this]
      exact .inr ⟨rfl, rfl⟩
    | _ =>
      have := h3 i _ hw (fun c e fz he => by cases he)
      rw [this]
theorem JbN.same {w w' : World} (h : JbN w w') {p : MemPlace} (hp : p.block < w.heap.size) : w.sameAt w' p := by
  obtain ⟨h1, h2, h3, h4, h5⟩ := h
  cases p with
  | cell b off =>
    have hb : b < w.heap.size := hp
    have hg := Array.getElem?_eq_getElem hb
    show w'.cell? ⟨b, off, none⟩ = w.cell? ⟨b, off, none⟩
    rw [J7E, J7E]
    unfold J0w
    cases hw : w.heap[b]? with
    | none => rw [hg] at hw; cases hw
    | some x =>
      cases x with
      | cells c e fz =>
        obtain ⟨c', q1, q2, q3⟩ := h2 b c e fz hw
        rw [q1]
        exact q3 off (fun hf => hf)
      | _ =>
        have := h3 b _ hw (fun c e fz he => by cases he)
        rw [this]
  | map b =>
    have hb : b < w.heap.size := hp
    have hg := Array.getElem?_eq_getElem hb
    show w'.heap[b]? = w.heap[b]?
    cases hw : w.heap[b]? with
    | none => rw [hg] at hw; cases hw
    | some x =>
      cases x with
      | cells c e fz =>
        obtain ⟨c', q1, q2, q3⟩ := h2 b c e fz hw
        rw [q1]
        have : c' = c := by
          apply Array.ext_getElem?
          intro i
          exact q3 i (fun hf => hf)
        rw [this]
      | _ => exact h3 b _ hw (fun c e fz he => by cases he)
theorem JbN.frozen {w w' : World} (h : JbN w w') {a : Addr} (hp : a.block < w.heap.size) : w'.frozen? a = w.frozen? a := by
  obtain ⟨h1, h2, h3, h4, h5⟩ := h
  have hg := Array.getElem?_eq_getElem hp
  unfold World.frozen?
  cases hw : w.heap[a.block]? with
  | none => rw [hg] at hw; cases hw
  | some x =>
    cases x with
    | cells c e fz =>
      obtain ⟨c', q1, q2, q3⟩ := h2 a.block c e fz hw
      rw [q1]
    | _ =>
      have := h3 a.block _ hw (fun c e fz he => by cases he)
      rw [this]
theorem Jpa {P : Program} {F : Orc} (hF : J5d P F) {f : FuncId} {args : List AV} {vals : Array Value} {w : World} (hl : args.length = vals.size)
    (hr : ∀ (i : Nat) x v, args[i]? = some x → vals[i]? = some v → JD ⟨[], gh0 w, w⟩ x v) (h : F f args [] = some (.p (.b true), [])) :
    Calls P f vals w fun e w' => e = .returned (.bool true) ∧ JbN w w' := by
  refine ((hF _ _ _ _ h).2 (gh0 w) w vals (Jun w) hl hr).mono fun e w' ⟨v, g', he, _, ht, hrel⟩ => ?_
  cases hrel with
  | p _ _ hrel =>
    cases hrel with
    | b =>
      refine ⟨he, ?_⟩
      obtain ⟨k1, k2, k3, k4⟩ := ht.keep
      refine ⟨k1, fun r c e fz hr => ?_, k3, k4⟩
      obtain ⟨c', q1, q2, q3⟩ := k2 r c e fz hr
      exact ⟨c', q1, q2, fun o _ => q3 o (fun ⟨b, hb⟩ => Jj2 _ _ _ _ _ hb)⟩
section
variable {H : Type} {enc : TypeId × Value → H} {P : Program}
theorem JdU (hl : laidOutB P = true) (hm : mapsRowed P = true) (hsz : ∀ {t e : TypeId}, t < P.types.size → P.underlying t = some (.slice e) → 0 < P.cellsOf e) {W W' : World} {sp : Nat → Bool} :
    ∀ {ts : List TypeId} {vs : List Value} {ds : List (DataW H)} {ps : List MemPlace}, (∀ t ∈ ts, t < P.types.size) → DataW.TrodAll enc P W 0 (fun _ => true) true ts vs ds ps →
      (∀ p ∈ ps, W.sameAt W' p) → (∀ p ∈ ps, sp p.block = true) → DataW.TrodAll enc P W' 0 sp true ts vs ds ps
  | [], [], [], _, _, h, _, _ => h
  | [], _ :: _, _, _, _, h, _, _ => h.elim
  | [], [], _ :: _, _, _, h, _, _ => h.elim
  | _ :: _, [], _, _, _, h, _, _ => h.elim
  | _ :: _, _ :: _, [], _, _, h, _, _ => h.elim
  | t :: ts, v :: vs, d :: ds, _, hT, ⟨p, q, ⟨n, h1⟩, h2, rfl⟩, hs, hp => by
    refine ⟨p, q, ⟨n, DataW.trod_stays (kids_rows hl hm) hsz (fun h => by cases h) (hT t (by simp)) h1 (fun x hx => hs x (by simp [hx])) (fun x hx => hp x (by simp [hx]))⟩, ?_, rfl⟩
    exact JdU hl hm hsz (fun x hx => hT x (by simp [hx])) h2 (fun x hx => hs x (by simp [hx])) (fun x hx => hp x (by simp [hx]))
def J9C (P : Program) : Bool := (List.range P.types.size).all fun t => match P.underlying t with
  | some (.slice e) => decide (0 < P.cellsOf e)
  | _ => true
theorem Jlk (h : J9C P = true) {t e : TypeId} (ht : t < P.types.size) (he : P.underlying t = some (.slice e)) : 0 < P.cellsOf e := by
  unfold J9C at h
  rw [List.all_eq_true] at h
  have := h t (by simpa using ht)
  rw [he] at this
  simpa using this
theorem JqB {fn : Func} {s : ChangeSpec} {tb : TypeId} (hl : laidOutB P = true) (hm : mapsRowed P = true) (hsz : J9C P = true) (hpar : ∀ t ∈ fn.params.toList, t < P.types.size)
    (hres : fn.resultTypes = #[tb]) (htb : P.underlying tb = some .bool) (hvars : s.vars = []) {apart fresh handsOn again : Bool} {W W' : World} {args : Array Value} {ds gs : List (DataW H)} {before : List MemPlace}
    (hfn : gs = [] → s.fn H (ds ++ gs) = { results := [.lit (.bool true)], args := ds })
    (hW : DataW.Whole enc P fn.params.toList s.vars apart W args.toList ds gs before) (hst : JbN W W') : s.post enc P fn apart fresh handsOn again W args (.bool true) W' := by
  have hW0 := hW
  have hlt := hW.lt
  obtain ⟨p, q, h1, h2, rfl, hz, hn⟩ := hW
  rw [hvars] at h2
  obtain ⟨rfl, rfl⟩ := trodVars_none h2
  rw [List.append_nil] at hW0 hlt hz hn
  have hf := hfn rfl
  have hargs : ∀ sp : Nat → Bool, (∀ x ∈ p, sp x.block = true) → DataW.TrodAll enc P W' 0 sp true fn.params.toList args.toList ds p := fun sp hp =>
    JdU hl hm (fun ht he => Jlk hsz ht he) hpar h1 (fun x hx => hst.same (hlt x hx)) hp
  have hr : ∀ (b : Nat) (sp : Nat → Bool) (hd : Bool), DataW.TrodAll enc P W' b sp hd fn.resultTypes.toList ((Value.bool true).resultList fn.resultTypes.size) [.lit (.bool true)] [] := by
    intro b sp hd
    rw [hres]
    exact trodAll_cons_mk (shut_bool htb _) trodAll_mk0
  refine ⟨ds, [], p, [], p, [], hW0, ?_, ?_, ?_, hst.kept _, fun _ => ⟨?_, ?_⟩⟩
  · rw [hf]; exact hr _ _ _
  · rw [hf]; exact hargs _ (fun x hx => by simpa using hlt x hx)
  · rw [hf, hvars]; rfl
  · exact ok_one hres rfl (okWide_bool_mk htb _)
  · refine ⟨_, [], [] ++ p, ⟨[] ++ p, [], trodAll_append (hargs _ (fun _ _ => rfl)) (hr _ _ _), by rw [hvars]; rfl, by simp, fun b off hp => ?_, fun ha => by simpa using hn ha⟩, fun x hx _ => by simpa using hx⟩
    have hp' : MemPlace.cell b off ∈ p := by simpa using hp
    rw [hst.frozen (a := ⟨b, off, none⟩) (hlt _ hp')]
    exact hz b off hp'
def Jjg (P : Program) (t : TypeId) (pvs : List PV) : AV := match P.underlying t with
  | some (.struct _) => .data pvs
  | some (.array _ _) => .data pvs
  | _ => match pvs with
    | [c] => .p c
    | _ => .unk
theorem Jja (hl : laidOutB P = true) (hm : mapsRowed P = true) {n : Nat} {t : TypeId} {w : World} {r : Reach} {base : Nat} {sp : Nat → Bool} {v : Value} {d : DataW H} {ps : List MemPlace} (hp : J8J P n t = true)
    (hv : Value.okWide P w r base t v) (h : DataW.Trod enc P w 0 sp true t v d ps) : ∃ pvs, J8T P n t pvs ∧ JD ⟨[], gh0 w, w⟩ (Jjg P t pvs) v := by
  obtain ⟨fuel, h⟩ := h
  obtain ⟨pvs, q1, q2, q3⟩ := Jsl hl hm n t _ _ fuel hp h
  refine ⟨pvs, q1, ?_⟩
  cases n with
  | zero => simp [J8J] at hp
  | succ n =>
    unfold J8J at hp
    unfold Value.okWide at hv
    unfold Jjg
    have one : ∀ {c : PV}, pvs = [c] → (∀ cs, v ≠ .agg cs) → JD ⟨[], gh0 w, w⟩ (.p c) v := by
      intro c hc hne
      subst hc
      refine .p _ _ (q3 0 c v rfl ?_)
      cases v <;> first | rfl | exact absurd rfl (hne _)
    unfold J8T at q1
    split at hp
    · rename_i ht
      rw [ht] at q1 hv ⊢
      obtain ⟨b, rfl⟩ := q1
      exact one rfl (fun cs he => by subst he; simp [Cell.okWide, Cell.ok, ht] at hv)
    · rename_i k ht
      rw [ht] at q1 hv ⊢
      obtain ⟨z, rfl, _⟩ := q1
      exact one rfl (fun cs he => by subst he; simp [Cell.okWide, Cell.ok, ht] at hv)
    · rename_i ht
      rw [ht] at q1 hv ⊢
      obtain ⟨z, rfl, _⟩ := q1
      exact one rfl (fun cs he => by subst he; simp [Cell.okWide, Cell.ok, ht] at hv)
    · rename_i e ht
      rw [ht] at q1 hv ⊢
      obtain ⟨rows, rfl, _⟩ := q1
      exact one rfl (fun cs he => by subst he; simp [Cell.okWide, Cell.ok, ht] at hv)
    · rename_i fs ht
      rw [ht] at hv ⊢
      obtain ⟨cs, rfl, _⟩ := hv
      exact .data _ _ (by simpa [Value.cells] using q2) (fun i x v h1 h2 => q3 i x v h1 (by simpa [Value.cells] using h2))
    · rename_i m e ht
      rw [ht] at hv ⊢
      obtain ⟨cs, rfl, _⟩ := hv
      exact .data _ _ (by simpa [Value.cells] using q2) (fun i x v h1 h2 => q3 i x v h1 (by simpa [Value.cells] using h2))
    · cases hp
end
end Go.Am
end
