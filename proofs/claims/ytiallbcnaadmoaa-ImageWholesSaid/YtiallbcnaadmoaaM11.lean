/-
  Parts of a proof.
-/
import Derived.Test.YtiallbcnaadmoaaM10
set_option linter.unusedSimpArgs false
set_option linter.unusedVariables false
section
namespace Go.Am
theorem Jqg {a b : Int} (ha : 0 ≤ a) (ha2 : a ≤ 1099511627776) (hb : 0 ≤ b) (hb2 : b ≤ 1099511627776) (h : Js a 8 = Js b 8) : a = b := by
 have key : ∀ i : Nat, i < 8 → J3k a i = J3k b i := by
  intro i hi
  have h2 : (Js a 8)[i]? = (Js b 8)[i]? := by rw [h]
  simp only [Js, toStr, List.map_map, List.getElem?_map, List.getElem?_range hi, Option.map_some, Function.comp, Option.some.injEq] at h2
  have h3 := congrArg (fun u : UInt8 => (u.toNat : Int)) h2
  simp only [J9S] at h3
  exact h3
 have e : ∀ (n : Int) (i : Nat), 0 ≤ n → n ≤ 1099511627776 → J3k n i = n / (2 ^ (8 * i)) % 256 := by
  intro n i h0 h1
  show ((IntKind.wrap .u64 n).fdiv (2 ^ (8 * i))) % 256 = _
  rw [Int.fdiv_eq_ediv_of_nonneg _ (Int.le_of_lt (Int.pow_pos (by decide))), J6H h0 (by omega)]
 have k0 := key 0 (by omega); have k1 := key 1 (by omega); have k2 := key 2 (by omega); have k3 := key 3 (by omega); have k4 := key 4 (by omega); have k5 := key 5 (by omega)
 rw [e _ _ ha ha2, e _ _ hb hb2] at k0 k1 k2 k3 k4 k5
 simp only [Nat.mul_zero, Nat.reduceMul, Int.reducePow] at k0 k1 k2 k3 k4 k5
 omega
theorem Jtt (x : Int) : ∃ k : Nat, J3P .u32 x 15 = (k : Int) ∧ k < 16 := by
 have h : (BitVec.ofInt 32 x &&& BitVec.ofInt 32 15).toNat ≤ 15 := by
  rw [BitVec.toNat_and]
  exact Nat.and_le_right
 refine ⟨(BitVec.ofInt 32 x &&& BitVec.ofInt 32 15).toNat, ?_, by omega⟩
 show (((BitVec.ofInt 32 x &&& BitVec.ofInt 32 15).toNat : Nat) : Int) % 4294967296 = _
 omega
theorem JiZ : ∃ v, J2a = some v := by
 have inner : ∀ (k : Nat) (b0 b1 : Vector Int 16), k < 16 → ∀ r : Int, ∃ o, J6g k k b0 b1 (r, 0) = some o ∧ ∃ v, o = .inl (((k + 1 : Nat) : Int), v) := by
  intro k b0 b1 hk r
  refine J0L (f := fun s : Int × Int => J0k k k b0 b1 s.1 s.2) (fun s => ∃ j : Nat, s.2 = j ∧ j ≤ 4) (fun s => (4 - s.2).toNat) _ (fun s ⟨j, hj, h4⟩ => ?_) (r, 0) ⟨0, rfl, by omega⟩
  obtain ⟨x, j'⟩ := s
  simp only at hj
  subst hj
  by_cases hlt : j < 4
  ·left
   have e1 : ((j : Nat) : Int) < 4 := by omega
   have e2 : J6P .u32 x 1 = some (x.fdiv (2 ^ (min (1 : Int).toNat IntKind.u32.bits))) := rfl
   by_cases hb : J3P .u32 x 1 = 1
   ·exact ⟨⟨_, ((j + 1 : Nat) : Int)⟩, by simp only [J0k, e1, decide_true, if_true, hb, beq_self_eq_true, e2, Option.bind_some, J1P (show j < 1000000 by omega)]; rfl, ⟨j + 1, rfl, by omega⟩, by simp; omega⟩
   ·have e3 : (J3P .u32 x 1 == 1) = false := by simpa using hb
    exact ⟨⟨_, ((j + 1 : Nat) : Int)⟩, by simp only [J0k, e1, decide_true, if_true, e3, Bool.false_eq_true, if_false, e2, Option.bind_some, J1P (show j < 1000000 by omega)]; rfl, ⟨j + 1, rfl, by omega⟩, by simp; omega⟩
  ·right
   have e1 : ¬ ((j : Nat) : Int) < 4 := by omega
   exact ⟨.inl (((k + 1 : Nat) : Int), J70 b1 k x), by simp only [J0k, e1, decide_false, Bool.false_eq_true, if_false, J3d, J3h, J6A hk, J3g _ k hk, Option.bind_some, Option.map_some, J1P (show k < 1000000 by omega)], _, rfl⟩
 obtain ⟨v, hv, _⟩ := J0L (f := fun s : Int × Vector Int 16 => J0E (Vector.replicate 16 0) s.1 s.2) (fun s => ∃ j : Nat, s.1 = j ∧ j ≤ 16) (fun s => (16 - s.1).toNat) (fun _ => True) (fun s ⟨j, hj, h4⟩ => by
  obtain ⟨j', b1⟩ := s
  simp only at hj
  subst hj
  by_cases hlt : j < 16
  ·left
   have e1 : ((j : Nat) : Int) < 16 := by omega
   obtain ⟨o, ho, v, rfl⟩ := inner j (Vector.replicate 16 0) b1 hlt (IntKind.wrap .u32 (j : Int))
   exact ⟨⟨((j + 1 : Nat) : Int), v⟩, by simp only [J0E, e1, decide_true, if_true]; exact ho, ⟨j + 1, rfl, by omega⟩, by simp; omega⟩
  ·right
   have e1 : ¬ ((j : Nat) : Int) < 16 := by omega
   exact ⟨b1, by simp only [J0E, e1, decide_false, Bool.false_eq_true, if_false, J3a, Option.map_some], trivial⟩) (0, Vector.replicate 16 0) ⟨0, rfl, by omega⟩
 exact ⟨v, hv⟩
theorem J7p {l : List UInt8} {k : Nat} (h : k < l.length) : Jb0 l (k : Int) = some ((l[k]).toNat : Int) := by
 have e : (0 : Int) ≤ k := by omega
 simp [Jb0, e, h]
theorem Jk9 (l : List UInt8) (hl : l.length ≤ 1000) : ∃ r, J1m l = some r := by
 obtain ⟨v, hv⟩ := JiZ
 obtain ⟨r, hr, _⟩ := J0L (f := fun s : Int × Int => J1x l (l.length : Int) v s.1 s.2) (fun s => ∃ j : Nat, s.2 = j ∧ j ≤ l.length) (fun s => (l.length - s.2).toNat) (fun _ => True) (fun s ⟨j, hj, h4⟩ => by
  obtain ⟨x, j'⟩ := s
  simp only at hj
  subst hj
  by_cases hlt : j < l.length
  ·left
   have e1 : ((j : Nat) : Int) < (l.length : Int) := by omega
   have e2 : ∀ z : Int, J6P .u32 z 4 = some (z.fdiv (2 ^ (min (4 : Int).toNat IntKind.u32.bits))) := fun _ => rfl
   have e3 : ∀ z : Int, ∃ y, inb 16 (J3P .u32 z 15) = some () ∧ J6Q v (J3P .u32 z 15) = some y := by
    intro z
    obtain ⟨k, hk, hk2⟩ := Jtt z
    rw [hk]
    exact ⟨_, J6A hk2, J3g _ k hk2⟩
   obtain ⟨y1, a1, a2⟩ := e3 (J4U .u32 x (IntKind.wrap .u32 (((l[j]).toNat : Nat) : Int)))
   obtain ⟨y2, a3, a4⟩ := e3 (J4U .u32 ((J4U .u32 x (IntKind.wrap .u32 (((l[j]).toNat : Nat) : Int))).fdiv (2 ^ (min (4 : Int).toNat IntKind.u32.bits))) y1)
   exact ⟨⟨_, ((j + 1 : Nat) : Int)⟩, by simp only [J1x, e1, decide_true, if_true, J7p hlt, Option.bind_some, e2, a1, a2, a3, a4, J1P (show j < 1000000 by omega)]; rfl, ⟨j + 1, rfl, by omega⟩, by simp; omega⟩
  ·right
   have e1 : ¬ ((j : Nat) : Int) < (l.length : Int) := by omega
   exact ⟨_, by simp only [J1x, e1, decide_false, Bool.false_eq_true, if_false, J58, Option.map_some]; rfl, trivial⟩) (4294967295, 0) ⟨0, rfl, by omega⟩
 exact ⟨r, by unfold J1m; rw [hv]; exact hr⟩
theorem J7z (l : List UInt8) (n : Int) {k : Nat} (h1 : 1 ≤ k) (h8 : k ≤ 8) (hl : l.length ≤ 1000) : J0i l n (k : Int) = some (l ++ Js n k) := by
 have e1 : ¬ ((k : Int) < 1 ∨ 8 < (k : Int)) := by omega
 have e2 : l.length + 8 ≤ 140737488355328 := by omega
 show Jdp l n k = _
 rw [Jdp, if_neg e1, if_pos e2]
 simp
theorem Jbm {a b : List UInt8} (ha : a.length ≤ 1000) (hb : b.length ≤ 1000) : J3e a b = some (a ++ b) := by
 have e : a.length + b.length ≤ 4611686018427387904 := by omega
 simp [J3e, e]
theorem Jan {n : Int} (h0 : 0 ≤ n) (h1 : n ≤ 1000) : J2V [0] n = some (List.replicate n.toNat 0) := by
 show Jho [0] n = _
 have e : (0 : Int) ≤ n ∧ n ≤ 9223372036854775807 ∧ ([0] : List UInt8).length * n.toNat ≤ 140737488355328 := by
  refine ⟨h0, by omega, ?_⟩
  simp; omega
 rw [Jho, if_pos e]
 have : ∀ k : Nat, (List.replicate k ([0] : List UInt8)).flatten = List.replicate k 0 := by
  intro k
  induction k with
  | zero => rfl
  | succ k ih => rw [List.replicate_succ, List.flatten_cons, ih]; rfl
 rw [this]
theorem Jng (b : T_page_builder) (c : J8) (hc : c.Data.length ≤ 12) (hb : b.s_.length ≤ 300) : ∃ t, J1s b c = some ⟨b.s_ ++ t⟩ ∧ t.length = 13 := by
 have go : ∀ x : Int, ∃ t, J15 x b c = some ⟨b.s_ ++ t⟩ ∧ t.length = 13 := by
  intro x
  have e0 : IntKind.wrap .i64 (12 - ((c.Data.length : Nat) : Int)) = ((12 - c.Data.length : Nat) : Int) := by rw [wrap64 (by omega) (by omega)]; omega
  have e1 := J7z b.s_ x (k := 1) (by omega) (by omega) (by omega)
  have e2 : J3e (b.s_ ++ Js x 1) c.Data = some (b.s_ ++ Js x 1 ++ c.Data) := Jbm (by rw [List.length_append, Jk]; omega) (by omega)
  have e3 := Jan (n := ((12 - c.Data.length : Nat) : Int)) (by omega) (by omega)
  have e4 : J3e (b.s_ ++ Js x 1 ++ c.Data) (List.replicate (((12 - c.Data.length : Nat) : Int)).toNat 0) = some (b.s_ ++ Js x 1 ++ c.Data ++ List.replicate (((12 - c.Data.length : Nat) : Int)).toNat 0) := Jbm (by simp only [List.length_append, Jk]; omega) (by simp; omega)
  refine ⟨Js x 1 ++ c.Data ++ List.replicate (((12 - c.Data.length : Nat) : Int)).toNat 0, ?_, ?_⟩
  ·unfold J15
   rw [show (1 : Int) = ((1 : Nat) : Int) by rfl, e1, Option.bind_some, e2, Option.bind_some, e0, e3, Option.bind_some, e4, Option.bind_some]
   simp only [List.append_assoc]
  ·simp only [List.length_append, Jk, List.length_replicate]; omega
 unfold J1s
 split
 ·exact go _
 ·exact go _
structure Jmw (p : T_api_Page) (r : List UInt8 × Int) : Prop where
 ok : r.2 = 0
 len : r.1.length = 256
 head : r.1.take 8 = Js p.LSN 8
 tail : r.1.drop 248 = Js p.LSN 8
 id : (r.1.drop 8).take 4 = Js p.ID 4
theorem Ji8 (p : T_api_Page) : ∃ b, J3W p = some b ∧ (b = true → ∀ (i : Nat) (h : i < 16), (p.Cells[i]).Data.length ≤ 12) ∧ ((∀ (i : Nat) (h : i < 16), J4q p.LSN p.Cells[i]) → b = true) := by
 refine J0L (f := fun s : Int => J07 p.Cells p s) (fun s => ∃ j : Nat, s = j ∧ j ≤ 16 ∧ ∀ (i : Nat) (h : i < 16), i < j → (p.Cells[i]).Data.length ≤ 12) (fun s => (16 - s).toNat)
  (fun b => (b = true → ∀ (i : Nat) (h : i < 16), (p.Cells[i]).Data.length ≤ 12) ∧ ((∀ (i : Nat) (h : i < 16), J4q p.LSN p.Cells[i]) → b = true)) (fun s ⟨j, hj, h4, hc⟩ => ?_) 0 ⟨0, rfl, by omega, fun i h hh => by omega⟩
 subst hj
 by_cases hlt : j < 16
 ·have e1 : ((j : Nat) : Int) < 16 := by omega
  have e2 := J3g p.Cells j hlt
  have e3 := J1P (show j < 1000000 by omega)
  have bad : ¬ J4q p.LSN p.Cells[j] → (∀ (i : Nat) (h : i < 16), J4q p.LSN p.Cells[i]) → false = true := fun h1 h2 => (h1 (h2 j hlt)).elim
  by_cases h12 : (((p.Cells[j]).Data.length : Nat) : Int) > 12
  ·right
   exact ⟨false, by simp only [J07, e1, decide_true, if_true, e2, Option.bind_some, h12], fun h => (by cases h), bad fun h => by have := h.1; omega⟩
  ·have nxt : ∀ (i : Nat) (h : i < 16), i < j + 1 → (p.Cells[i]).Data.length ≤ 12 := by
    intro i hi hij
    by_cases hh : i < j
    ·exact hc i hi hh
    ·obtain rfl : i = j := by omega
     omega
   by_cases hs : (p.Cells[j]).Set = true
   ·by_cases hl : p.LSN = 0
    ·right
     exact ⟨false, by simp only [J07, e1, decide_true, if_true, e2, Option.bind_some, h12, decide_false, Bool.false_eq_true, if_false, hs, hl, beq_self_eq_true], fun h => (by cases h), bad fun h => h.2.2 hs hl⟩
    ·left
     have e4 : (p.LSN == 0) = false := by simpa using hl
     exact ⟨((j + 1 : Nat) : Int), by simp only [J07, e1, decide_true, if_true, e2, Option.bind_some, h12, decide_false, Bool.false_eq_true, if_false, hs, e4, e3], ⟨j + 1, rfl, by omega, nxt⟩, by omega⟩
   ·have hs' : (p.Cells[j]).Set = false := by simpa using hs
    by_cases hd : (p.Cells[j]).Data = []
    ·left
     exact ⟨((j + 1 : Nat) : Int), by simp only [J07, e1, decide_true, if_true, e2, Option.bind_some, h12, decide_false, Bool.false_eq_true, if_false, hs', hd, beq_self_eq_true, e3]; rfl, ⟨j + 1, rfl, by omega, nxt⟩, by omega⟩
    ·right
     have e4 : ((p.Cells[j]).Data == []) = false := by simpa using hd
     exact ⟨false, by simp only [J07, e1, decide_true, if_true, e2, Option.bind_some, h12, decide_false, Bool.false_eq_true, if_false, hs', e4], fun h => (by cases h), bad fun h => hd (h.2.1 hs')⟩
 ·right
  have e1 : ¬ ((j : Nat) : Int) < 16 := by omega
  exact ⟨true, by simp only [J07, e1, decide_false, Bool.false_eq_true, if_false, J5Z, Option.map_some], fun _ i h => hc i h (by omega), fun _ => rfl⟩
end Go.Am
end
section
namespace Go.Am
theorem Jlc {σ ρ : Type} {f g : σ → Option (σ ⊕ ρ)} (I : σ → Prop) (h1 : ∀ s, I s → f s = g s) (h2 : ∀ s s', I s → f s = some (.inl s') → I s') {s : σ} (hs : I s) : Ju f s = Ju g s := by
 have key : ∀ (f g : σ → Option (σ ⊕ ρ)), (∀ s, I s → f s = g s) → (∀ s s', I s → f s = some (.inl s') → I s') → ∀ r s, I s → Ju f s = some r → Ju g s = some r := by
  intro f g h1 h2 r s hs h
  exact J0T (P := fun s r => I s → Ju g s = some r) (fun s r e hs => J22 ((h1 s hs) ▸ e)) (fun s s' r e ih hs => (J2J ((h1 s hs) ▸ e)).trans (ih (h2 s s' hs e))) h hs
 cases hf : Ju f s with
 | some r => exact (key f g h1 h2 r s hs hf).symm
 | none =>
  cases hg : Ju g s with
  | none => rfl
  | some r => rw [key g f (fun s hs => (h1 s hs).symm) (fun s s' hs e => h2 s s' hs ((h1 s hs).trans e)) r s hs hg] at hf; cases hf
theorem Jod {σ ρ τ ρ' : Type} {f : σ → Option (σ ⊕ ρ)} {g : τ → Option (τ ⊕ ρ')} (R : σ → τ → Prop) (K : ρ → ρ' → Prop)
  (h1 : ∀ s t s', R s t → f s = some (.inl s') → ∃ t', g t = some (.inl t') ∧ R s' t') (h2 : ∀ s t r, R s t → f s = some (.inr r) → ∃ r', g t = some (.inr r') ∧ K r r')
  {s : σ} {t : τ} {r : ρ} (hR : R s t) (h : Ju f s = some r) : ∃ r', Ju g t = some r' ∧ K r r' := by
 exact J0T (P := fun s r => ∀ t, R s t → ∃ r', Ju g t = some r' ∧ K r r')
  (fun s r e t ht => by obtain ⟨r', a, b⟩ := h2 s t r ht e; exact ⟨r', J22 a, b⟩)
  (fun s s' r e ih t ht => by obtain ⟨t', a, b⟩ := h1 s t s' ht e; obtain ⟨r', c, d⟩ := ih t' b; exact ⟨r', (J2J a).trans c, d⟩) h t hR
theorem J9X {a b : List UInt8} (h : a.length + b.length ≤ 1000000000) : J3e a b = some (a ++ b) := by
 have e : a.length + b.length ≤ 4611686018427387904 := by omega
 simp [J3e, e]
theorem JdX (l : List UInt8) (n : Int) {k : Nat} (h1 : 1 ≤ k) (h8 : k ≤ 8) (hl : l.length ≤ 1000000) : J0i l n (k : Int) = some (l ++ Js n k) := by
 have e1 : ¬ ((k : Int) < 1 ∨ 8 < (k : Int)) := by omega
 have e2 : l.length + 8 ≤ 140737488355328 := by omega
 show Jdp l n k = _
 rw [Jdp, if_neg e1, if_pos e2]
 simp
theorem Jke {n : Int} (h1 : 0 ≤ n) (h2 : n < 1000000) : IntKind.wrap .u64 (IntKind.wrap .i64 n) = n := by
 rw [wrap64 (by omega) (by omega), J6H h1 (by omega)]
theorem J8k (l : List UInt8) (n : Int) {k : Nat} (h1 : 1 ≤ k) (h8 : k ≤ 8) (hl : l.length ≤ 1000000) : J18 l n (k : Int) = some (l ++ Js n k) := by
 have c1 : ¬ (k : Int) < 1 := by omega
 have c2 : ¬ (k : Int) > 8 := by omega
 have key : ∀ (m j : Nat), j + m = k → Ju (fun s : List UInt8 × Int => J4i n k s.1 s.2) (l ++ Js n j, (j : Int)) = some (l ++ Js n k) := by
  intro m
  induction m with
  | zero =>
   intro j hj
   obtain rfl : j = k := by omega
   have e1 : ¬ ((j : Nat) : Int) < (j : Int) := by omega
   refine J22 ?_
   simp only [J4i, e1, decide_false, Bool.false_eq_true, if_false, J7U, Option.map_some]
  | succ m ih =>
   intro j hj
   have e1 : ((j : Nat) : Int) < (k : Int) := by omega
   have e2 : IntKind.wrap .u64 (IntKind.wrap .i64 (8 * (j : Int))) = 8 * (j : Int) := Jke (by omega) (by omega)
   have e3 : J6P .u64 (IntKind.wrap .u64 n) (8 * (j : Int)) = some ((IntKind.wrap .u64 n).fdiv (2 ^ (8 * j))) := by
    simp only [J6P]
    rw [if_neg (by omega)]
    have : min (8 * (j : Int)).toNat IntKind.u64.bits = 8 * j := by
     rw [show (8 * (j : Int)).toNat = 8 * j by omega]
     exact Nat.min_eq_left (by show 8 * j ≤ 64; omega)
    rw [this]
   have e4 : toStr [IntKind.wrap .u8 ((IntKind.wrap .u64 n).fdiv (2 ^ (8 * j)))] = [UInt8.ofNat (J3k n j).toNat] := rfl
   have e5 : J3e (l ++ Js n j) [UInt8.ofNat (J3k n j).toNat] = some (l ++ Js n (j + 1)) := by
    rw [J9X (by rw [List.length_append, Jk]; simp; omega), JhZ, List.append_assoc]
   refine (J2J (s' := (l ++ Js n (j + 1), ((j + 1 : Nat) : Int))) ?_).trans (ih (j + 1) (by omega))
   simp only [J4i, e1, decide_true, if_true, e2, e3, Option.bind_some, e4, e5, J1P (show j < 1000000 by omega)]
 unfold J18
 simp only [c1, c2, decide_false, Bool.false_eq_true, if_false]
 have h0 := key k 0 (by omega)
 have e : Js n 0 = [] := rfl
 rw [e, List.append_nil] at h0
 exact h0
theorem JhB (s : List UInt8) (at_ : Int) {k : Int} (h1 : 1 ≤ k) (h8 : k ≤ 8) : J4A s at_ k = J09 s at_ k := by
 have key : JcS s at_ k (0, 0) = J9B s at_ k (0, 0) := by
  refine Jlc (fun q : Int × Int => 0 ≤ q.2 ∧ q.2 ≤ k) (fun q ⟨h0, h2⟩ => ?_) (fun q q' ⟨h0, h2⟩ e => ?_) ⟨by simp, by simp; omega⟩
  ·have e2 : IntKind.wrap .u64 (IntKind.wrap .i64 (8 * q.2)) = 8 * q.2 := Jke (by omega) (by omega)
   have e3 : IntKind.wrap .i64 (8 * q.2) = 8 * q.2 := wrap64 (by omega) (by omega)
   have e4 : IntKind.wrap .u64 (8 * q.2) = 8 * q.2 := J6H (by omega) (by omega)
   simp only [J9m, J0a, e3, e4]
   rfl
  ·simp only [J9m] at e
   split at e
   ·rename_i hlt
    simp only [decide_eq_true_eq] at hlt
    simp only [Option.bind_eq_some_iff, Option.some.injEq, Sum.inl.injEq] at e
    obtain ⟨_, _, _, _, rfl⟩ := e
    have e3 : IntKind.wrap .i64 (q.2 + 1) = q.2 + 1 := wrap64 (by omega) (by omega)
    simp only [e3]
    omega
   ·simp [JcN] at e
 unfold J4A J09
 rw [key]
def P32 : Nat := 2197175160
def gb (c : Nat) : Nat := if c % 2 = 1 then c / 2 ^^^ P32 else c / 2
def gN : Nat → Nat → Nat
 | 0, c => c
 | j + 1, c => gN j (gb c)
def sl (b : Nat) : Nat := if b = 1 then P32 else 0
theorem JgW (c : Nat) : gb c = c / 2 ^^^ sl (c % 2) := by
 unfold gb sl
 split
 ·rfl
 ·rw [Nat.xor_zero]
theorem JsI (x y : Nat) : gb (x ^^^ y) = gb x ^^^ gb y := by
 have e1 : (x ^^^ y) / 2 = x / 2 ^^^ y / 2 := by have := @Nat.xor_div_two_pow x y 1; simpa using this
 have e2 : (x ^^^ y) % 2 = x % 2 ^^^ y % 2 := by have := @Nat.xor_mod_two_pow x y 1; simpa using this
 simp only [JgW, e1, e2]
 have e3 : sl (x % 2 ^^^ y % 2) = sl (x % 2) ^^^ sl (y % 2) := by
  rcases Nat.mod_two_eq_zero_or_one x with h | h <;> rcases Nat.mod_two_eq_zero_or_one y with h' | h' <;> rw [h, h'] <;> decide
 rw [e3]
 ac_rfl
theorem Jg4 : ∀ (j x y : Nat), gN j (x ^^^ y) = gN j x ^^^ gN j y
 | 0, _, _ => rfl
 | j + 1, x, y => by simp only [gN]; rw [JsI, Jg4 j]
theorem JnJ : ∀ (i j x : Nat), gN (i + j) x = gN j (gN i x)
 | 0, j, x => by simp [gN]
 | i + 1, j, x => by rw [Nat.succ_add]; simp only [gN]; exact JnJ i j _
theorem Jm9 (c : Nat) : gN 4 c = c / 16 ^^^ (sl (c / 8 % 2) ^^^ gN 1 (sl (c / 4 % 2)) ^^^ gN 2 (sl (c / 2 % 2)) ^^^ gN 3 (sl (c % 2))) := by
 have s1 : gN 4 c = gN 3 (c / 2) ^^^ gN 3 (sl (c % 2)) := by
  rw [← Jg4, ← JgW]; rfl
 have s2 : gN 3 (c / 2) = gN 2 (c / 4) ^^^ gN 2 (sl (c / 2 % 2)) := by
  rw [← Jg4, show c / 4 = c / 2 / 2 by omega, ← JgW]; rfl
 have s3 : gN 2 (c / 4) = gN 1 (c / 8) ^^^ gN 1 (sl (c / 4 % 2)) := by
  rw [← Jg4, show c / 8 = c / 4 / 2 by omega, ← JgW]; rfl
 have s4 : gN 1 (c / 8) = c / 16 ^^^ sl (c / 8 % 2) := by
  rw [show c / 16 = c / 8 / 2 by omega, ← JgW]; rfl
 rw [s1, s2, s3, s4]
 ac_rfl
theorem Jqh (c : Nat) : gN 4 c = c / 16 ^^^ gN 4 (c % 16) := by
 rw [Jm9 c, Jm9 (c % 16)]
 have a0 : c % 16 / 16 = 0 := by omega
 have a1 : c % 16 / 8 % 2 = c / 8 % 2 := by omega
 have a2 : c % 16 / 4 % 2 = c / 4 % 2 := by omega
 have a3 : c % 16 / 2 % 2 = c / 2 % 2 := by omega
 have a4 : c % 16 % 2 = c % 2 := by omega
 rw [a0, a1, a2, a3, a4, Nat.zero_xor]
theorem JkJ : P32 < 2 ^ 32 := by decide
theorem Jnb {c : Nat} (h : c < 2 ^ 32) : gb c < 2 ^ 32 := by
 unfold gb
 split
 ·exact Nat.xor_lt_two_pow (by omega) JkJ
 ·omega
theorem JdU : ∀ {j c : Nat}, c < 2 ^ 32 → gN j c < 2 ^ 32
 | 0, _, h => h
 | j + 1, _, h => JdU (j := j) (Jnb h)
theorem J94 (n : Nat) (h : n < 2 ^ 32) : IntKind.wrap .u32 (n : Int) = (n : Int) := by
 rw [show IntKind.wrap .u32 (n : Int) = (n : Int) % 4294967296 from rfl]; omega
theorem JhC {n : Nat} (h : n < 2 ^ 32) : (BitVec.ofInt 32 (n : Int)).toNat = n := by
 rw [BitVec.toNat_ofInt]; omega
theorem Jae {x y : Nat} (hx : x < 2 ^ 32) (hy : y < 2 ^ 32) : J4U .u32 (x : Int) (y : Int) = ((x ^^^ y : Nat) : Int) := by
 show IntKind.wrap .u32 (((BitVec.ofInt 32 (x : Int) ^^^ BitVec.ofInt 32 (y : Int)).toNat : Nat) : Int) = _
 rw [BitVec.toNat_xor, JhC hx, JhC hy, J94 _ (Nat.xor_lt_two_pow hx hy)]
theorem JjN {x : Nat} (hx : x < 2 ^ 32) (k : Nat) (hk : k ≤ 20) : J3P .u32 (x : Int) ((2 ^ k - 1 : Nat) : Int) = ((x % 2 ^ k : Nat) : Int) := by
 show IntKind.wrap .u32 (((BitVec.ofInt 32 (x : Int) &&& BitVec.ofInt 32 ((2 ^ k - 1 : Nat) : Int)).toNat : Nat) : Int) = _
 have h2 : 2 ^ k - 1 < 2 ^ 32 := by
  have : (2 : Nat) ^ k ≤ 2 ^ 20 := Nat.pow_le_pow_right (by omega) hk
  omega
 rw [BitVec.toNat_and, JhC hx, JhC h2, Nat.and_two_pow_sub_one_eq_mod, J94 _ (Nat.lt_of_le_of_lt (Nat.mod_le _ _) hx)]
theorem JsG {x : Nat} (hx : x < 2 ^ 32) : J3P .u32 (x : Int) 1 = ((x % 2 : Nat) : Int) := JjN hx 1 (by omega)
theorem Jsk {x : Nat} (hx : x < 2 ^ 32) : J3P .u32 (x : Int) 15 = ((x % 16 : Nat) : Int) := JjN hx 4 (by omega)
theorem Jt7 (x : Nat) : J6P .u32 (x : Int) 1 = some ((x / 2 : Nat) : Int) := by
 show some ((x : Int).fdiv 2) = _
 rw [Int.fdiv_eq_ediv_of_nonneg _ (by omega)]; simp
theorem JtO (x : Nat) : J6P .u32 (x : Int) 4 = some ((x / 16 : Nat) : Int) := by
 show some ((x : Int).fdiv 16) = _
 rw [Int.fdiv_eq_ediv_of_nonneg _ (by omega)]; simp
def Jf7 : List UInt8 → Nat → Nat
 | [], c => c
 | b :: r, c => Jf7 r (gN 8 (c ^^^ b.toNat))
theorem J8Y (b : UInt8) : b.toNat < 2 ^ 32 := by have := UInt8.toNat_lt b; omega
theorem JlW : ∀ {l : List UInt8} {c : Nat}, c < 2 ^ 32 → Jf7 l c < 2 ^ 32
 | [], _, h => h
 | b :: r, _, h => JlW (l := r) (JdU (Nat.xor_lt_two_pow h (J8Y b)))
def crc (l : List UInt8) : Nat := Jf7 l 4294967295 ^^^ 4294967295
theorem Jgk (l : List UInt8) : crc l < 2 ^ 32 := Nat.xor_lt_two_pow (JlW (by decide)) (by decide)
theorem Jkd {x : Nat} (hx : x < 2 ^ 32) : JhI .u32 (x : Int) = ((x ^^^ 4294967295 : Nat) : Int) := by
 show IntKind.wrap .u32 (((BitVec.ofInt 32 4294967295 ^^^ BitVec.ofInt 32 (x : Int)).toNat : Nat) : Int) = _
 rw [BitVec.toNat_xor, JhC hx, show (4294967295 : Int) = ((4294967295 : Nat) : Int) by rfl, JhC (by decide), Nat.xor_comm, J94 _ (Nat.xor_lt_two_pow hx (by decide))]
theorem JlV (l : List UInt8) (hl : l.length ≤ 100000) : J5G l = some ((crc l : Nat) : Int) := by
 have inner : ∀ (x : Nat) (m k c : Nat), c < 2 ^ 32 → x < 200000 → k + m = 8 → Ju (fun s : Int × Int => J4h l (x : Int) s.1 s.2) ((c : Int), (k : Int)) = some (.inl (((gN m c : Nat) : Int), ((x + 1 : Nat) : Int))) := by
  intro x m
  induction m with
  | zero =>
   intro k c hc hx hk
   obtain rfl : k = 8 := by omega
   refine J22 ?_
   have e1 : ¬ (((8 : Nat) : Nat) : Int) < 8 := by omega
   simp only [J4h, e1, decide_false, Bool.false_eq_true, if_false, J7O, Option.map_some, J1P (show x < 1000000 by omega), gN]
  | succ m ih =>
   intro k c hc hx hk
   have e1 : ((k : Nat) : Int) < 8 := by omega
   refine (J2J (s' := (((gb c : Nat) : Int), ((k + 1 : Nat) : Int))) ?_).trans (ih (k + 1) (gb c) (Jnb hc) hx (by omega))
   have e2 := JsG hc
   simp only [J4h, e1, decide_true, if_true, e2, Jt7, Option.bind_some, J6x, J1P (show k < 1000000 by omega)]
   unfold gb
   by_cases hb : c % 2 = 1
   ·simp only [hb, if_true, Int.natCast_one, beq_self_eq_true]
    rw [show (2197175160 : Int) = ((P32 : Nat) : Int) by rfl, Jae (by omega) JkJ]
   ·have e3 : (((c % 2 : Nat) : Int) == 1) = false := by simp; omega
    simp only [hb, if_false, e3, Bool.false_eq_true]
 have outer : ∀ (m j c : Nat), c < 2 ^ 32 → j + m = l.length → Ju (fun s : Int × Int => J4n l s.1 s.2) ((c : Int), (j : Int)) = some (((Jf7 (l.drop j) c ^^^ 4294967295 : Nat) : Int)) := by
  intro m
  induction m with
  | zero =>
   intro j c hc hj
   obtain rfl : j = l.length := by omega
   refine J22 ?_
   have e1 : ¬ ((l.length : Nat) : Int) < ((l.length : Nat) : Int) := by omega
   simp only [J4n, e1, decide_false, Bool.false_eq_true, if_false, J7W, Option.map_some, Jkd hc, List.drop_length, Jf7]
  | succ m ih =>
   intro j c hc hj
   have hlt : j < l.length := by omega
   have e1 : ((j : Nat) : Int) < ((l.length : Nat) : Int) := by omega
   have hx := Nat.xor_lt_two_pow hc (J8Y l[j])
   refine (J2J (s' := (((gN 8 (c ^^^ (l[j]).toNat) : Nat) : Int), ((j + 1 : Nat) : Int))) ?_).trans ((ih (j + 1) _ (JdU hx) (by omega)).trans ?_)
   ·simp only [J4n, e1, decide_true, if_true, J7p hlt, Option.bind_some]
    rw [J94 _ (J8Y _), Jae hc (J8Y _)]
    exact inner j 8 0 _ hx (by omega) (by omega)
   ·rw [List.drop_eq_getElem_cons hlt]
    rfl
 exact outer l.length 0 4294967295 (by decide) (by omega)
theorem JgR : ∃ v, J2a = some v ∧ ∀ (i : Nat) (h : i < 16), v[i] = ((gN 4 i : Nat) : Int) := by
 have inner : ∀ (k : Nat) (b0 b1 : Vector Int 16), k < 16 → ∀ (m j c : Nat), c < 2 ^ 32 → j + m = 4 → Ju (fun s : Int × Int => J0k k k b0 b1 s.1 s.2) ((c : Int), (j : Int)) = some (.inl (((k + 1 : Nat) : Int), J70 b1 k ((gN m c : Nat) : Int))) := by
  intro k b0 b1 hk m
  induction m with
  | zero =>
   intro j c hc hj
   obtain rfl : j = 4 := by omega
   refine J22 ?_
   have e1 : ¬ (((4 : Nat) : Nat) : Int) < 4 := by omega
   simp only [J0k, e1, decide_false, Bool.false_eq_true, if_false, J3d, J3h, J6A hk, J3g _ k hk, Option.bind_some, Option.map_some, J1P (show k < 1000000 by omega), gN]
  | succ m ih =>
   intro j c hc hj
   have e1 : ((j : Nat) : Int) < 4 := by omega
   refine (J2J (s' := (((gb c : Nat) : Int), ((j + 1 : Nat) : Int))) ?_).trans (ih (j + 1) (gb c) (Jnb hc) (by omega))
   have e2 := JsG hc
   simp only [J0k, e1, decide_true, if_true, e2, Jt7, Option.bind_some, J1P (show j < 1000000 by omega)]
   unfold gb
   by_cases hb : c % 2 = 1
   ·simp only [hb, if_true, Int.natCast_one, beq_self_eq_true]
    rw [show (2197175160 : Int) = ((P32 : Nat) : Int) by rfl, Jae (by omega) JkJ]
   ·have e3 : (((c % 2 : Nat) : Int) == 1) = false := by simp; omega
    simp only [hb, if_false, e3, Bool.false_eq_true]
 refine J0L (f := fun s : Int × Vector Int 16 => J0E (Vector.replicate 16 0) s.1 s.2) (fun s => ∃ j : Nat, s.1 = j ∧ j ≤ 16 ∧ ∀ (i : Nat) (h : i < 16), i < j → s.2[i] = ((gN 4 i : Nat) : Int)) (fun s => (16 - s.1).toNat) (fun v => ∀ (i : Nat) (h : i < 16), v[i] = ((gN 4 i : Nat) : Int)) (fun s ⟨j, hj, h4, hv⟩ => ?_) (0, Vector.replicate 16 0) ⟨0, rfl, by omega, fun i h hh => by omega⟩
 obtain ⟨j', b1⟩ := s
 simp only at hj hv
 subst hj
 by_cases hlt : j < 16
 ·left
  have e1 : ((j : Nat) : Int) < 16 := by omega
  have ho := inner j (Vector.replicate 16 0) b1 hlt 4 0 j (by omega) (by omega)
  refine ⟨⟨((j + 1 : Nat) : Int), J70 b1 j ((gN 4 j : Nat) : Int)⟩, by simp only [J0E, e1, decide_true, if_true, J94 j (by omega)]; exact ho, ⟨j + 1, rfl, by omega, fun i h hh => ?_⟩, by simp; omega⟩
  simp only [J70, Int.toNat_natCast, Vector.getElem_setIfInBounds]
  by_cases hij : j = i
  ·subst hij; simp
  ·rw [if_neg hij]; exact hv i h (by omega)
 ·right
  obtain rfl : j = 16 := by omega
  have e1 : ¬ (((16 : Nat) : Nat) : Int) < 16 := by omega
  exact ⟨b1, by simp only [J0E, e1, decide_false, Bool.false_eq_true, if_false, J3a, Option.map_some], fun i h => hv i h h⟩
theorem JfF (l : List UInt8) (hl : l.length ≤ 100000) : J1m l = some ((crc l : Nat) : Int) := by
 obtain ⟨v, hv, ht⟩ := JgR
 have outer : ∀ (m j c : Nat), c < 2 ^ 32 → j + m = l.length → Ju (fun s : Int × Int => J1x l (l.length : Int) v s.1 s.2) ((c : Int), (j : Int)) = some (((Jf7 (l.drop j) c ^^^ 4294967295 : Nat) : Int)) := by
  intro m
  induction m with
  | zero =>
   intro j c hc hj
   obtain rfl : j = l.length := by omega
   refine J22 ?_
   have e1 : ¬ ((l.length : Nat) : Int) < ((l.length : Nat) : Int) := by omega
   simp only [J1x, e1, decide_false, Bool.false_eq_true, if_false, J58, Option.map_some, Jkd hc, List.drop_length, Jf7]
  | succ m ih =>
   intro j c hc hj
   have hlt : j < l.length := by omega
   have e1 : ((j : Nat) : Int) < ((l.length : Nat) : Int) := by omega
   have hx := Nat.xor_lt_two_pow hc (J8Y l[j])
   have step : ∀ x : Nat, x < 2 ^ 32 → inb 16 (J3P .u32 (x : Int) 15) = some () ∧ J6Q v (J3P .u32 (x : Int) 15) = some ((gN 4 (x % 16) : Nat) : Int) ∧ J4U .u32 ((x / 16 : Nat) : Int) ((gN 4 (x % 16) : Nat) : Int) = ((gN 4 x : Nat) : Int) := by
    intro x hx
    have h16 : x % 16 < 16 := by omega
    rw [Jsk hx]
    refine ⟨J6A h16, by rw [J3g _ _ h16, ht _ h16], ?_⟩
    rw [Jae (by omega) (JdU (by omega)), ← Jqh]
   refine (J2J (s' := (((gN 8 (c ^^^ (l[j]).toNat) : Nat) : Int), ((j + 1 : Nat) : Int))) ?_).trans ((ih (j + 1) _ (JdU hx) (by omega)).trans ?_)
   ·obtain ⟨a1, a2, a3⟩ := step _ hx
    obtain ⟨b1, b2, b3⟩ := step (gN 4 (c ^^^ (l[j]).toNat)) (JdU hx)
    simp only [J1x, e1, decide_true, if_true, J7p hlt, Option.bind_some, J94 _ (J8Y l[j]), Jae hc (J8Y l[j]), JtO, a1, a2, a3, b1, b2, b3, J1P (show j < 1000000 by omega)]
    rw [← JnJ 4 4]
   ·rw [List.drop_eq_getElem_cons hlt]
    rfl
 unfold J1m
 rw [hv]
 exact outer l.length 0 4294967295 (by decide) (by omega)
end Go.Am
end
section
namespace Go.Am
theorem Jle (p : T_api_Page) (hc : ∀ (i : Nat) (h : i < 16), (p.Cells[i]).Data.length ≤ 12) (h0 : List UInt8) (hh : h0 = Js p.LSN 8 ++ Js p.ID 4) :
  ∃ r, J8H p.Cells p (0, ⟨h0⟩) = some r ∧ Jmw p r := by
 refine J0L (f := fun s : Int × T_page_builder => J1D p.Cells p s.1 s.2) (fun s => ∃ (j : Nat) (t : List UInt8), s.1 = j ∧ j ≤ 16 ∧ s.2.s_ = Js p.LSN 8 ++ Js p.ID 4 ++ t ∧ t.length = 13 * j) (fun s => (16 - s.1).toNat)
  (Jmw p) (fun s ⟨j, t, hj, h4, ht, hl⟩ => ?_) (0, ⟨h0⟩) ⟨0, [], rfl, by omega, by simp [hh], by simp⟩
 obtain ⟨j', b⟩ := s
 simp only at hj ht
 subst hj
 have hbl : b.s_.length = 12 + 13 * j := by rw [ht]; simp only [List.length_append, Jk, hl]
 by_cases hlt : j < 16
 ·left
  have e1 : ((j : Nat) : Int) < 16 := by omega
  obtain ⟨u, e2, hu⟩ := Jng b p.Cells[j] (hc j hlt) (by omega)
  exact ⟨⟨((j + 1 : Nat) : Int), ⟨b.s_ ++ u⟩⟩, by simp only [J1D, e1, decide_true, if_true, J3g _ j hlt, Option.bind_some, e2, J1P (show j < 1000000 by omega)], ⟨j + 1, t ++ u, rfl, by omega, by simp only [ht, List.append_assoc], by simp only [List.length_append, hl, hu]; omega⟩, by simp; omega⟩
 ·right
  obtain rfl : j = 16 := by omega
  have e1 : ¬ (((16 : Nat) : Nat) : Int) < 16 := by omega
  have a0 : IntKind.wrap .i64 (244 - ((b.s_.length : Nat) : Int)) = 24 := by rw [hbl, wrap64 (by omega) (by omega)]; omega
  have a1 := Jan (n := 24) (by omega) (by omega)
  have a2 : J3e b.s_ (List.replicate (24 : Int).toNat 0) = some (b.s_ ++ List.replicate (24 : Int).toNat 0) := Jbm (by omega) (by simp)
  obtain ⟨r, a3⟩ := Jk9 (b.s_ ++ List.replicate (24 : Int).toNat 0) (by simp [hbl])
  have a4 := J7z (b.s_ ++ List.replicate (24 : Int).toNat 0) (IntKind.wrap .i64 r) (k := 4) (by omega) (by omega) (by simp [hbl])
  have a5 := J7z (b.s_ ++ List.replicate (24 : Int).toNat 0 ++ Js (IntKind.wrap .i64 r) 4) p.LSN (k := 8) (by omega) (by omega) (by simp [hbl, Jk])
  refine ⟨(b.s_ ++ List.replicate (24 : Int).toNat 0 ++ Js (IntKind.wrap .i64 r) 4 ++ Js p.LSN 8, 0), ?_, ?_⟩
  ·simp only [J1D, e1, decide_false, Bool.false_eq_true, if_false, J5s, a0, a1, a2, a3, Option.bind_some]
   rw [show (4 : Int) = ((4 : Nat) : Int) by rfl, a4, Option.bind_some, show (8 : Int) = ((8 : Nat) : Int) by rfl, a5]
   rfl
  ·refine ⟨rfl, by simp [hbl, Jk], ?_, ?_, ?_⟩
   ·rw [ht]
    simp only [List.append_assoc]
    rw [List.take_append_of_le_length (by rw [Jk]; omega), List.take_of_length_le (by rw [Jk]; omega)]
   ·rw [List.drop_append, List.drop_of_length_le (by simp [hbl, Jk]), List.nil_append]
    simp [hbl, Jk]
   ·rw [ht]
    simp only [List.append_assoc]
    rw [List.drop_append, List.drop_of_length_le (by rw [Jk]; omega), List.nil_append, Jk, Nat.sub_self, List.drop_zero, List.take_append_of_le_length (by rw [Jk]; omega), List.take_of_length_le (by rw [Jk]; omega)]
theorem Jgx (p : T_api_Page) : ∃ r, J0x p = some r ∧ (J3c p → Jmw p r) := by
 have hp : ∃ b, J1f p = some b ∧ (J3c p → b = true) := by
  unfold J1f J0O
  by_cases h1 : p.ID ≥ 0
  ·by_cases h2 : p.ID < 64
   ·by_cases h3 : p.LSN ≥ 0
    ·exact ⟨decide (p.LSN ≤ 1099511627776), by simp [h1, h2, h3], fun h => by simpa using h.lsn1⟩
    ·exact ⟨false, by simp [h1, h2, h3], fun h => (h3 h.lsn0).elim⟩
   ·exact ⟨false, by simp [h1, h2], fun h => (h2 h.id1).elim⟩
  ·exact ⟨false, by simp [h1], fun h => (h1 h.id0).elim⟩
 obtain ⟨b, e1, hb⟩ := hp
 obtain ⟨d, e2, hd, hd2⟩ := Ji8 p
 unfold J0x
 simp only [e1, e2, Option.bind_some]
 cases b with
 | false => exact ⟨_, rfl, fun h => by cases hb h⟩
 | true =>
  cases d with
  | false => exact ⟨_, rfl, fun h => by cases hd2 h.cells⟩
  | true =>
   have a1 := J7z [] p.LSN (k := 8) (by omega) (by omega) (by simp)
   have a2 := J7z ([] ++ Js p.LSN 8) p.ID (k := 4) (by omega) (by omega) (by simp [Jk])
   obtain ⟨r, hr, hq⟩ := Jle p (hd rfl) ([] ++ Js p.LSN 8 ++ Js p.ID 4) (by simp)
   refine ⟨r, ?_, fun _ => hq⟩
   simp only [if_true]
   rw [show (8 : Int) = ((8 : Nat) : Int) by rfl, a1, Option.bind_some, show (4 : Int) = ((4 : Nat) : Int) by rfl, a2, Option.bind_some]
   exact hr
theorem JqG (s : List UInt8) (hs : s.length ≤ 1000) {at_ k : Nat} (h1 : 1 ≤ k) (h8 : k ≤ 8) (ha : at_ ≤ 1000) : ∃ r, J09 s at_ k = some r := by
 have c1 : ¬ ((k : Int) < 1) := by omega
 have c2 : ¬ ((k : Int) > 8) := by omega
 have c3 : ¬ ((at_ : Int) < 0) := by omega
 unfold J09
 simp only [c1, c2, c3, decide_false, Bool.false_eq_true, if_false]
 by_cases c4 : (at_ : Int) > (s.length : Int)
 ·exact ⟨(0, 5), by simp only [c4, decide_true, if_true]⟩
 ·have e0 : IntKind.wrap .i64 ((s.length : Int) - at_) = (s.length : Int) - at_ := wrap64 (by omega) (by omega)
  simp only [c4, decide_false, Bool.false_eq_true, if_false, e0]
  by_cases c5 : (s.length : Int) - at_ < k
  ·exact ⟨(0, 5), by simp only [c5, decide_true, if_true]⟩
  ·simp only [c5, decide_false, Bool.false_eq_true, if_false]
   obtain ⟨r, hr, _⟩ := J0L (f := fun q : Int × Int => J0a s at_ k q.1 q.2) (fun q => ∃ j : Nat, q.2 = j ∧ j ≤ k) (fun q => (k - q.2).toNat) (fun _ => True) (fun q ⟨j, hj, h4⟩ => by
    obtain ⟨x, j'⟩ := q
    simp only at hj
    subst hj
    by_cases hlt : j < k
    ·left
     have e1 : ((j : Nat) : Int) < (k : Int) := by omega
     have e2 : IntKind.wrap .i64 ((at_ : Int) + (j : Int)) = ((at_ + j : Nat) : Int) := by rw [wrap64 (by omega) (by omega)]; omega
     have e3 : IntKind.wrap .i64 (8 * (j : Int)) = ((8 * j : Nat) : Int) := by rw [wrap64 (by omega) (by omega)]; omega
     have e4 : ∀ z : Int, ∃ y, Jbb .u64 z ((8 * j : Nat) : Int) = some y := fun z => ⟨_, if_neg (by omega)⟩
     obtain ⟨y, e5⟩ := e4 (IntKind.wrap .u64 (((s[at_ + j]).toNat : Nat) : Int))
     exact ⟨⟨_, ((j + 1 : Nat) : Int)⟩, by simp only [J0a, e1, decide_true, if_true, e2, J7p (show at_ + j < s.length by omega), Option.bind_some, e3, e5, J1P (show j < 1000000 by omega)]; rfl, ⟨j + 1, rfl, by omega⟩, by simp; omega⟩
    ·right
     have e1 : ¬ ((j : Nat) : Int) < (k : Int) := by omega
     exact ⟨_, by simp only [J0a, e1, decide_false, Bool.false_eq_true, if_false, J4p, Option.map_some]; rfl, trivial⟩) (0, 0) ⟨0, rfl, by omega⟩
   exact ⟨r, hr⟩
theorem Jcg (s : List UInt8) (hs : s.length ≤ 1000) {at_ : Nat} (ha : at_ < s.length) : J09 s at_ 1 = some (((s[at_]).toNat : Int), 0) := by
 have c3 : ¬ ((at_ : Int) < 0) := by omega
 have c4 : ¬ ((at_ : Int) > (s.length : Int)) := by omega
 have e0 : IntKind.wrap .i64 ((s.length : Int) - at_) = (s.length : Int) - at_ := wrap64 (by omega) (by omega)
 have c5 : ¬ ((s.length : Int) - at_ < 1) := by omega
 unfold J09
 simp only [show ¬ ((1 : Int) < 1) by omega, show ¬ ((1 : Int) > 8) by omega, c3, c4, e0, c5, decide_false, Bool.false_eq_true, if_false]
 have hu : (s[at_]).toNat < 256 := UInt8.toNat_lt _
 have w0 : IntKind.wrap .u64 (((s[at_]).toNat : Nat) : Int) = (((s[at_]).toNat : Nat) : Int) := J6H (by omega) (by omega)
 have e2 : IntKind.wrap .i64 ((at_ : Int) + 0) = (at_ : Int) := by rw [wrap64 (by omega) (by omega)]; omega
 have e3 : Jbb .u64 (((s[at_]).toNat : Nat) : Int) (IntKind.wrap .i64 (8 * 0)) = some (((s[at_]).toNat : Nat) : Int) := by
  rw [show IntKind.wrap .i64 (8 * 0) = 0 by rfl]
  show some (IntKind.wrap .u64 ((((s[at_]).toNat : Nat) : Int) * 2 ^ 0)) = _
  rw [show ((((s[at_]).toNat : Nat) : Int) * 2 ^ 0) = (((s[at_]).toNat : Nat) : Int) by omega, w0]
 have e4 : orI .u64 0 (((s[at_]).toNat : Nat) : Int) = (((s[at_]).toNat : Nat) : Int) := by
  have h2 : (BitVec.ofInt 64 0 ||| BitVec.ofInt 64 (((s[at_]).toNat : Nat) : Int)).toNat = (s[at_]).toNat := by
   rw [show BitVec.ofInt 64 0 = 0#64 by rfl, BitVec.zero_or, BitVec.toNat_ofInt]
   omega
  show IntKind.wrap .u64 (((BitVec.ofInt 64 0 ||| BitVec.ofInt 64 (((s[at_]).toNat : Nat) : Int)).toNat : Nat) : Int) = _
  rw [h2, w0]
 have s0 : J0a s at_ 1 0 0 = some (.inl ((((s[at_]).toNat : Nat) : Int), 1)) := by
  simp only [J0a, show ((0 : Int) < 1) by omega, decide_true, if_true, e2, J7p ha, Option.bind_some, w0, e3, e4, show IntKind.wrap .i64 ((0 : Int) + 1) = 1 by rfl]
 have s1 : J0a s at_ 1 (((s[at_]).toNat : Nat) : Int) 1 = some (.inr ((((s[at_]).toNat : Nat) : Int), 0)) := by
  simp only [J0a, show ¬ ((1 : Int) < 1) by omega, decide_false, Bool.false_eq_true, if_false, J4p, Option.map_some, wrap64 (show -9223372036854775808 ≤ (((s[at_]).toNat : Nat) : Int) by omega) (by omega)]
 exact (J2J (f := fun q : Int × Int => J0a s at_ 1 q.1 q.2) (s := (0, 0)) s0).trans (J22 s1)
theorem J8x (s : List UInt8) (hs : s.length ≤ 1000) {at_ k : Nat} (h1 : 1 ≤ k) (h8 : k ≤ 8) (ha : at_ ≤ 1000) : ∃ r, Jy s at_ k = some r := by
 obtain ⟨r, hr⟩ := JqG s hs h1 h8 ha
 exact ⟨r.1, by simp [Jy, hr]⟩
theorem Jny {α : Type} (l : List α) {a b : Nat} (h1 : a ≤ b) (h2 : b ≤ l.length) : J28 l (some (a : Int)) (some (b : Int)) = some ((l.drop a).take (b - a)) := by
 have e1 : (0 : Int) ≤ b ∧ (b : Int) ≤ l.length := by omega
 have e2 : (0 : Int) ≤ a ∧ (a : Int) ≤ b := by omega
 simp only [J28, Jda, Jbe, e1, e2, and_self, if_true, Int.toNat_natCast]
theorem JbC {α : Type} (l : List α) {b : Nat} (h2 : b ≤ l.length) : J28 l none (some (b : Int)) = some (l.take b) := by
 have e1 : (0 : Int) ≤ b ∧ (b : Int) ≤ l.length := by omega
 simp only [J28, Jda, Jbe, e1, and_self, if_true, Int.toNat_natCast, List.drop_zero, Nat.sub_zero]
theorem JfH {α : Type} (l : List α) {a : Nat} (h2 : a ≤ l.length) : J28 l (some (a : Int)) none = some (l.drop a) := by
 have e1 : (0 : Int) ≤ a ∧ (a : Int) ≤ l.length := by omega
 simp only [J28, Jda, Jbe, e1, and_self, if_true, Int.toNat_natCast]
 rw [List.take_of_length_le (by simp)]
theorem Jk0 (s : List UInt8) (hs : s.length = 256) : ∃ r, J2D s = some r := by
 obtain ⟨r1, a1⟩ := J8x s (by omega) (at_ := 8) (k := 4) (by omega) (by omega) (by omega)
 obtain ⟨r2, a2⟩ := J8x s (by omega) (at_ := 0) (k := 8) (by omega) (by omega) (by omega)
 have a1' : Jy s 8 4 = some r1 := a1
 have a2' : Jy s 0 8 = some r2 := a2
 unfold J2D
 simp only [a1', a2', Option.bind_some]
 obtain ⟨r, hr, _⟩ := J0L (f := fun q : Int × T_api_Page => J0f s ⟨0, 0, Vector.replicate 16 ⟨false, []⟩⟩ q.1 q.2) (fun q => ∃ j : Nat, q.1 = j ∧ j ≤ 16) (fun q => (16 - q.1).toNat) (fun _ => True) (fun q ⟨j, hj, h4⟩ => by
  obtain ⟨j', p⟩ := q
  simp only at hj
  subst hj
  by_cases hlt : j < 16
  ·have e1 : ((j : Nat) : Int) < 16 := by omega
   have e2 : IntKind.wrap .i64 (12 + IntKind.wrap .i64 ((j : Int) * 13)) = ((12 + 13 * j : Nat) : Int) := by
    rw [wrap64 (n := (j : Int) * 13) (by omega) (by omega), wrap64 (by omega) (by omega)]; omega
   have hu : (s[12 + 13 * j]'(by omega)).toNat < 256 := UInt8.toNat_lt _
   have e3 : Jy s ((12 + 13 * j : Nat) : Int) 1 = some (((s[12 + 13 * j]'(by omega)).toNat : Nat) : Int) := by
    simp only [Jy, Jcg s (by omega) (show 12 + 13 * j < s.length by omega), Option.bind_some]
   generalize hv : (s[12 + 13 * j]'(by omega)).toNat = v at e3 hu
   by_cases h255 : v = 255
   ·left
    subst h255
    exact ⟨⟨((j + 1 : Nat) : Int), p⟩, by simp only [J0f, e1, decide_true, if_true, e2, e3, Option.bind_some, J1P (show j < 1000000 by omega)]; rfl, ⟨j + 1, rfl, by omega⟩, by simp; omega⟩
   ·have e4 : (((v : Nat) : Int) == 255) = false := by simp; omega
    by_cases h12 : ((v : Nat) : Int) > 12
    ·right
     exact ⟨_, by simp only [J0f, e1, decide_true, if_true, e2, e3, Option.bind_some, e4, Bool.false_eq_true, if_false, h12]; rfl, trivial⟩
    ·left
     have e5 : IntKind.wrap .i64 (((12 + 13 * j : Nat) : Int) + 1) = ((13 + 13 * j : Nat) : Int) := by rw [wrap64 (by omega) (by omega)]; omega
     have e6 : IntKind.wrap .i64 (((13 + 13 * j : Nat) : Int) + ((v : Nat) : Int)) = ((13 + 13 * j + v : Nat) : Int) := by rw [wrap64 (by omega) (by omega)]; omega
     have e7 := Jny s (a := 13 + 13 * j) (b := 13 + 13 * j + v) (by omega) (by omega)
     exact ⟨⟨((j + 1 : Nat) : Int), _⟩, by simp only [J0f, e1, decide_true, if_true, e2, e3, Option.bind_some, e4, Bool.false_eq_true, if_false, h12, decide_false, e5, e6, e7, J6A hlt, J3g _ j hlt, J1P (show j < 1000000 by omega)]; rfl, ⟨j + 1, rfl, by omega⟩, by simp; omega⟩
  ·right
   have e1 : ¬ ((j : Nat) : Int) < 16 := by omega
   exact ⟨_, by simp only [J0f, e1, decide_false, Bool.false_eq_true, if_false, J4l, Option.map_some]; rfl, trivial⟩) (0, ⟨r1, r2, Vector.replicate 16 ⟨false, []⟩⟩) ⟨0, rfl, by omega⟩
 exact ⟨r, hr⟩
end Go.Am
end
section
namespace Go.Am
def blk : List UInt8 := List.replicate 256 0
theorem Jl1 : blk.take 8 = Js 0 8 := by decide +kernel
theorem Jq0 : blk.drop 248 = Js 0 8 := by decide +kernel
theorem Jb6 : J4K = some blk := by
 unfold J4K
 rw [Jan (n := 256) (by omega) (by omega)]
 rfl
theorem JmH (x : List UInt8) (hx : x.length = 256) : ∃ r, J0w x = some r ∧ (r.2 = 0 ∨ r.2 = 7 → x.take 8 = x.drop 248) := by
 unfold J0w
 have e0 : (((x.length : Nat) : Int) != 256) = false := by rw [hx]; rfl
 have e1 : J28 x none (some 8) = some (x.take 8) := JbC x (b := 8) (by omega)
 have e2 : J28 x (some 248) none = some (x.drop 248) := JfH x (a := 248) (by omega)
 have e3 : J28 x none (some 244) = some (x.take 244) := JbC x (b := 244) (by omega)
 obtain ⟨n, e4⟩ := J8x x (by omega) (at_ := 244) (k := 4) (by omega) (by omega) (by omega)
 have e4' : Jy x 244 4 = some n := e4
 obtain ⟨c, e5⟩ := Jk9 (x.take 244) (by simp; omega)
 obtain ⟨p, e6⟩ := Jk0 x hx
 obtain ⟨q, e7, _⟩ := Jgx p.1
 simp only [e0, Bool.false_eq_true, if_false, Jb6, Option.bind_some]
 by_cases hb : x = blk
 ·refine ⟨_, by rw [if_pos (by simpa using hb)], fun _ => ?_⟩
  rw [hb, Jl1, Jq0]
 ·have hb' : (x == blk) = false := by simpa using hb
  simp only [hb', Bool.false_eq_true, if_false, e1, e2, Option.bind_some]
  by_cases hp : x.take 8 = x.drop 248
  ·have hp' : (x.take 8 == x.drop 248) = true := by simpa using hp
   simp only [hp', if_true, e4', e3, e5, e6, e7, Option.bind_some]
   split
   ·exact ⟨_, rfl, fun _ => hp⟩
   ·split
    ·split
     ·exact ⟨_, rfl, fun _ => hp⟩
     ·split
      ·exact ⟨_, rfl, fun _ => hp⟩
      ·exact ⟨_, rfl, fun _ => hp⟩
    ·exact ⟨_, rfl, fun _ => hp⟩
  ·have hp' : (x.take 8 == x.drop 248) = false := by simpa using hp
   simp only [hp', Bool.false_eq_true, if_false]
   exact ⟨_, rfl, fun h => by rcases h with h | h <;> cases h⟩
end Go.Am
end
section
namespace Go.Am
theorem JnS {x b j : Nat} (hj : j ≤ 7) (hx : x < 2 ^ (8 * j)) (hb : b < 256) :
  orI .u64 (x : Int) (IntKind.wrap .u64 (((b : Nat) : Int) * 2 ^ (8 * j))) = ((x + b * 2 ^ (8 * j) : Nat) : Int) := by
 have p1 : (2 : Nat) ^ (8 * j) * 256 ≤ 2 ^ 64 := by
  rw [show (256 : Nat) = 2 ^ 8 by rfl, ← Nat.pow_add]
  exact Nat.pow_le_pow_right (by omega) (by omega)
 have p2 : b * 2 ^ (8 * j) + 2 ^ (8 * j) ≤ 2 ^ 64 := by
  have : (b + 1) * 2 ^ (8 * j) ≤ 256 * 2 ^ (8 * j) := Nat.mul_le_mul_right _ (by omega)
  rw [Nat.add_mul, Nat.one_mul] at this
  omega
 have w : IntKind.wrap .u64 (((b : Nat) : Int) * 2 ^ (8 * j)) = ((b * 2 ^ (8 * j) : Nat) : Int) := by
  have e : (((b : Nat) : Int) * 2 ^ (8 * j)) = ((b * 2 ^ (8 * j) : Nat) : Int) := by simp
  rw [e, J6H (by omega) (by omega)]
 rw [w]
 have e1 : ∀ y : Nat, y < 2 ^ 64 → (BitVec.ofInt 64 (y : Int)).toNat = y := by
  intro y hy
  rw [BitVec.toNat_ofInt]
  omega
 show IntKind.wrap .u64 (((BitVec.ofInt 64 (x : Int) ||| BitVec.ofInt 64 ((b * 2 ^ (8 * j) : Nat) : Int)).toNat : Nat) : Int) = _
 rw [BitVec.toNat_or, e1 x (by omega), e1 _ (by omega)]
 have e2 : x ||| b * 2 ^ (8 * j) = x + b * 2 ^ (8 * j) := by
  rw [Nat.or_comm, Nat.mul_comm b, ← Nat.two_pow_add_eq_or_of_lt hx, Nat.add_comm]
 rw [e2, J6H (by omega) (by omega)]
theorem Jgo {n i : Nat} (hn : n < 2 ^ 64) : J3k (n : Int) i = ((n / 2 ^ (8 * i) % 256 : Nat) : Int) := by
 show ((IntKind.wrap .u64 (n : Int)).fdiv (2 ^ (8 * i))) % 256 = _
 rw [Int.fdiv_eq_ediv_of_nonneg _ (Int.le_of_lt (Int.pow_pos (by decide))), J6H (by omega) (by omega)]
 simp
theorem JfB {n : Int} {k i : Nat} (h : i < k) : (Js n k)[i]? = some (UInt8.ofNat (J3k n i).toNat) := by
 simp [Js, toStr, h]
theorem Jhz (pre post : List UInt8) {n k : Nat} (h1 : 1 ≤ k) (h8 : k ≤ 8) (hn : n < 2 ^ (8 * k)) (hn2 : n < 2 ^ 63) (hl : (pre ++ (Js n k ++ post)).length ≤ 1000000) :
  J09 (pre ++ (Js n k ++ post)) (pre.length : Int) (k : Int) = some ((n : Int), 0) := by
 generalize hs : pre ++ (Js n k ++ post) = s at hl
 have hlen : pre.length + k ≤ s.length := by rw [← hs]; simp [Jk]
 have c1 : ¬ ((k : Int) < 1) := by omega
 have c2 : ¬ ((k : Int) > 8) := by omega
 have c3 : ¬ ((pre.length : Int) < 0) := by omega
 have c4 : ¬ ((pre.length : Int) > (s.length : Int)) := by omega
 have e0 : IntKind.wrap .i64 ((s.length : Int) - pre.length) = (s.length : Int) - pre.length := wrap64 (by omega) (by omega)
 have c5 : ¬ ((s.length : Int) - pre.length < k) := by omega
 unfold J09
 simp only [c1, c2, c3, c4, c5, e0, decide_false, Bool.false_eq_true, if_false]
 have key : ∀ (m j : Nat), j + m = k → Ju (fun q : Int × Int => J0a s pre.length k q.1 q.2) (((n % 2 ^ (8 * j) : Nat) : Int), (j : Int)) = some ((n : Int), 0) := by
  intro m
  induction m with
  | zero =>
   intro j hj
   obtain rfl : j = k := by omega
   have e1 : ¬ ((j : Nat) : Int) < (j : Int) := by omega
   refine J22 ?_
   simp only [J0a, e1, decide_false, Bool.false_eq_true, if_false, J4p, Option.map_some, Nat.mod_eq_of_lt hn]
   rw [wrap64 (by omega) (by omega)]
  | succ m ih =>
   intro j hj
   have e1 : ((j : Nat) : Int) < (k : Int) := by omega
   have e2 : IntKind.wrap .i64 ((pre.length : Int) + (j : Int)) = ((pre.length + j : Nat) : Int) := by rw [wrap64 (by omega) (by omega)]; omega
   have e3 : IntKind.wrap .i64 (8 * (j : Int)) = ((8 * j : Nat) : Int) := by rw [wrap64 (by omega) (by omega)]; omega
   have hb : (s[pre.length + j]'(by omega)).toNat = n / 2 ^ (8 * j) % 256 := by
    have h5 : s[pre.length + j]? = some (UInt8.ofNat (J3k (n : Int) j).toNat) := by
     rw [← hs, List.getElem?_append_right (by omega), Nat.add_sub_cancel_left, List.getElem?_append_left (by rw [Jk]; omega), JfB (by omega)]
    rw [List.getElem?_eq_getElem (by omega)] at h5
    injection h5 with h5
    have h6 := J9S (n : Int) j
    rw [← h5, Jgo (by omega)] at h6
    omega
   have hb2 : n / 2 ^ (8 * j) % 256 < 256 := Nat.mod_lt _ (by omega)
   have e4 : Jbb .u64 (IntKind.wrap .u64 (((s[pre.length + j]'(by omega)).toNat : Nat) : Int)) ((8 * j : Nat) : Int) = some (IntKind.wrap .u64 (((n / 2 ^ (8 * j) % 256 : Nat) : Int) * 2 ^ (8 * j))) := by
    rw [hb, J6H (by omega) (by omega)]
    simp only [Jbb]
    rw [if_neg (by omega)]
    have : min (((8 * j : Nat) : Int)).toNat IntKind.u64.bits = 8 * j := by
     simp only [Int.toNat_natCast]
     exact Nat.min_eq_left (by show 8 * j ≤ 64; omega)
    rw [this]
   have e5 := JnS (x := n % 2 ^ (8 * j)) (b := n / 2 ^ (8 * j) % 256) (j := j) (by omega) (Nat.mod_lt _ (Nat.two_pow_pos _)) hb2
   have e6 : n % 2 ^ (8 * j) + n / 2 ^ (8 * j) % 256 * 2 ^ (8 * j) = n % 2 ^ (8 * (j + 1)) := by
    rw [Nat.mul_add, Nat.pow_add, Nat.mod_mul, Nat.mul_comm (n / 2 ^ (8 * j) % 256)]
   rw [e6] at e5
   refine (J2J (s' := (((n % 2 ^ (8 * (j + 1)) : Nat) : Int), ((j + 1 : Nat) : Int))) ?_).trans (ih (j + 1) (by omega))
   simp only [J0a, e1, decide_true, if_true, e2, J7p (show pre.length + j < s.length by omega), Option.bind_some, e3, e4, e5, J1P (show j < 1000000 by omega)]
 have h0 := key k 0 (by omega)
 simp only [Nat.mul_zero, Nat.pow_zero, Nat.mod_one] at h0
 exact h0
end Go.Am
end
section
namespace Go.Am
def J6X (c : J8) : List UInt8 := Js (if c.Set then (c.Data.length : Int) else 255) 1 ++ c.Data ++ List.replicate (12 - c.Data.length) 0
theorem JnY {c : J8} (h : c.Data.length ≤ 12) : (J6X c).length = 13 := by
 simp only [J6X, List.length_append, Jk, List.length_replicate]; omega
theorem JnQ (b : T_page_builder) (c : J8) (hc : c.Data.length ≤ 12) (hb : b.s_.length ≤ 300) : J1s b c = some ⟨b.s_ ++ J6X c⟩ := by
 have go : ∀ x : Int, J15 x b c = some ⟨b.s_ ++ (Js x 1 ++ c.Data ++ List.replicate (12 - c.Data.length) 0)⟩ := by
  intro x
  have e0 : IntKind.wrap .i64 (12 - ((c.Data.length : Nat) : Int)) = ((12 - c.Data.length : Nat) : Int) := by rw [wrap64 (by omega) (by omega)]; omega
  have e1 := J7z b.s_ x (k := 1) (by omega) (by omega) (by omega)
  have e2 : J3e (b.s_ ++ Js x 1) c.Data = some (b.s_ ++ Js x 1 ++ c.Data) := Jbm (by rw [List.length_append, Jk]; omega) (by omega)
  have e3 := Jan (n := ((12 - c.Data.length : Nat) : Int)) (by omega) (by omega)
  rw [Int.toNat_natCast] at e3
  have e4 : J3e (b.s_ ++ Js x 1 ++ c.Data) (List.replicate (12 - c.Data.length) 0) = some (b.s_ ++ Js x 1 ++ c.Data ++ List.replicate (12 - c.Data.length) 0) := Jbm (by simp only [List.length_append, Jk]; omega) (by simp; omega)
  unfold J15
  rw [show (1 : Int) = ((1 : Nat) : Int) by rfl, e1, Option.bind_some, e2, Option.bind_some, e0, e3, Option.bind_some, e4, Option.bind_some]
  simp only [List.append_assoc]
 unfold J1s J6X
 cases hs : c.Set with
 | true => simp only [if_true]; exact go _
 | false => simp only [Bool.false_eq_true, if_false]; exact go _
theorem Jnk (x : Int) : 0 ≤ JhI .u32 x ∧ JhI .u32 x < 4294967296 := by
 have h : ∀ y : Int, 0 ≤ IntKind.wrap .u32 y ∧ IntKind.wrap .u32 y < 4294967296 := by
  intro y
  have e : IntKind.wrap .u32 y = y % 4294967296 := rfl
  rw [e]; omega
 exact h _
theorem Jnn {l : List UInt8} {r : Int} (h : J1m l = some r) : 0 ≤ r ∧ r < 4294967296 := by
 unfold J1m at h
 obtain ⟨v, _, h⟩ := Option.bind_eq_some_iff.1 h
 have h0 : Ju (fun s : Int × Int => J1x l (l.length : Int) v s.1 s.2) (4294967295, 0) = some r := h
 refine J0T (P := fun (_ : Int × Int) (o : Int) => 0 ≤ o ∧ o < 4294967296) (fun s o hs => ?_) (fun s s1 o hs ih => ih) h0
 unfold J1x at hs
 split at hs
 ·simp only [Option.bind_eq_some_iff, Option.some.injEq] at hs
  obtain ⟨_, _, _, _, _, _, _, _, _, _, _, _, _, _, hs⟩ := hs
  cases hs
 ·obtain ⟨z, hz, e⟩ := Option.map_eq_some_iff.1 hs
  injection e with e
  subst e
  unfold J58 at hz
  injection hz with hz
  rw [← hz]
  exact Jnk _
end Go.Am
end
section
namespace Go.Am
def J1q (l : List J8) : List UInt8 := (l.map J6X).flatten
theorem J8m : ∀ {l : List J8}, (∀ c ∈ l, c.Data.length ≤ 12) → (J1q l).length = 13 * l.length
 | [], _ => rfl
 | c :: l, h => by
  have h1 := JnY (h c (by simp))
  have h2 := J8m (l := l) fun d hd => h d (by simp [hd])
  simp only [J1q, List.map_cons, List.flatten_cons, List.length_append, List.length_cons] at h2 ⊢
  omega
theorem Jf1 (l : List J8) (c : J8) : J1q (l ++ [c]) = J1q l ++ J6X c := by simp [J1q]
def J08 (p : T_api_Page) : List UInt8 := Js p.LSN 8 ++ Js p.ID 4 ++ J1q p.Cells.toList ++ List.replicate 24 0
theorem JeR {p : T_api_Page} (hp : J3c p) : ∃ c, J1m (J08 p) = some c ∧ J0x p = some (J08 p ++ Js (IntKind.wrap .i64 c) 4 ++ Js p.LSN 8, 0) := by
 have hd : ∀ c ∈ p.Cells.toList, c.Data.length ≤ 12 := by
  intro c hc
  obtain ⟨i, hi, rfl⟩ := List.getElem_of_mem hc
  have h16 : i < 16 := by simpa using hi
  have := (hp.cells i h16).1
  simpa using this
 have loop := J0L (f := fun s : Int × T_page_builder => J1D p.Cells p s.1 s.2) (fun s => ∃ j : Nat, s.1 = j ∧ j ≤ 16 ∧ s.2.s_ = Js p.LSN 8 ++ Js p.ID 4 ++ J1q (p.Cells.toList.take j)) (fun s => (16 - s.1).toNat)
  (fun r => ∃ c, J1m (J08 p) = some c ∧ r = (J08 p ++ Js (IntKind.wrap .i64 c) 4 ++ Js p.LSN 8, 0)) (fun s ⟨j, hj, h4, ht⟩ => by
  obtain ⟨j', b⟩ := s
  simp only at hj ht
  subst hj
  have hl : (J1q (p.Cells.toList.take j)).length = 13 * j := by
   rw [J8m fun c hc => hd c (List.mem_of_mem_take hc)]
   simp; omega
  have hbl : b.s_.length = 12 + 13 * j := by rw [ht]; simp only [List.length_append, Jk, hl]
  by_cases hlt : j < 16
  ·left
   have e1 : ((j : Nat) : Int) < 16 := by omega
   have e2 := JnQ b p.Cells[j] (hp.cells j hlt).1 (by omega)
   have e3 : p.Cells.toList.take (j + 1) = p.Cells.toList.take j ++ [p.Cells[j]] := by
    rw [List.take_add_one, List.getElem?_eq_getElem (by simpa using hlt)]
    simp
   exact ⟨⟨((j + 1 : Nat) : Int), ⟨b.s_ ++ J6X p.Cells[j]⟩⟩, by simp only [J1D, e1, decide_true, if_true, J3g _ j hlt, Option.bind_some, e2, J1P (show j < 1000000 by omega)], ⟨j + 1, rfl, by omega, by show b.s_ ++ _ = _; rw [ht, e3, Jf1]; simp only [List.append_assoc]⟩, by simp; omega⟩
  ·right
   obtain rfl : j = 16 := by omega
   have e1 : ¬ (((16 : Nat) : Nat) : Int) < 16 := by omega
   have e5 : p.Cells.toList.take 16 = p.Cells.toList := List.take_of_length_le (by simp)
   rw [e5] at ht
   have a0 : IntKind.wrap .i64 (244 - ((b.s_.length : Nat) : Int)) = 24 := by rw [hbl, wrap64 (by omega) (by omega)]; omega
   have a1 : J2V [0] 24 = some (List.replicate 24 0) := Jan (n := 24) (by omega) (by omega)
   have a6 : b.s_ ++ List.replicate 24 0 = J08 p := by rw [ht]; rfl
   have a7 : (J08 p).length = 244 := by rw [← a6]; simp [hbl]
   have a2 : J3e b.s_ (List.replicate 24 0) = some (J08 p) := by rw [← a6]; exact Jbm (by omega) (by simp)
   obtain ⟨r, a3⟩ := Jk9 (J08 p) (by omega)
   have a4 := J7z (J08 p) (IntKind.wrap .i64 r) (k := 4) (by omega) (by omega) (by omega)
   have a5 := J7z (J08 p ++ Js (IntKind.wrap .i64 r) 4) p.LSN (k := 8) (by omega) (by omega) (by simp [a7, Jk])
   refine ⟨_, ?_, r, a3, rfl⟩
   simp only [J1D, e1, decide_false, Bool.false_eq_true, if_false, J5s, a0, a1, a2, a3, Option.bind_some]
   rw [show (4 : Int) = ((4 : Nat) : Int) by rfl, a4, Option.bind_some, show (8 : Int) = ((8 : Nat) : Int) by rfl, a5]
   rfl) (0, ⟨Js p.LSN 8 ++ Js p.ID 4⟩) ⟨0, rfl, by omega, by simp [J1q]⟩
 obtain ⟨r, hr, c, hc, rfl⟩ := loop
 refine ⟨c, hc, ?_⟩
 obtain ⟨d, e2, _, hd2⟩ := Ji8 p
 have hd3 := hd2 hp.cells
 subst hd3
 have e1 : J1f p = some true := by
  have i0 := hp.id0; have i1 := hp.id1; have l0 := hp.lsn0; have l1 := hp.lsn1
  simp [J1f, J0O, i0, i1, l0, l1]
 have a1 := J7z [] p.LSN (k := 8) (by omega) (by omega) (by simp)
 have a2 := J7z ([] ++ Js p.LSN 8) p.ID (k := 4) (by omega) (by omega) (by simp [Jk])
 unfold J0x
 simp only [e1, e2, Option.bind_some, if_true]
 rw [show (8 : Int) = ((8 : Nat) : Int) by rfl, a1, Option.bind_some, show (4 : Int) = ((4 : Nat) : Int) by rfl, a2, Option.bind_some, List.nil_append]
 exact hr
end Go.Am
end
section
namespace Go.Am
theorem JqY {α : Type} {A D R : List α} {a b : Nat} (ha : a = A.length) (hb : b = A.length + D.length) : J28 (A ++ (D ++ R)) (some (a : Int)) (some (b : Int)) = some D := by
 rw [Jny _ (by omega) (by rw [hb]; simp)]
 rw [ha, hb, List.drop_left, Nat.add_sub_cancel_left, List.take_left]
theorem Jgb {p : T_api_Page} (hp : J3c p) (tail : List UInt8) {j : Nat} (hj : j < 16) :
  ∃ A R, J08 p ++ tail = A ++ (J6X p.Cells[j] ++ R) ∧ A.length = 12 + 13 * j := by
 have hd : ∀ c ∈ p.Cells.toList, c.Data.length ≤ 12 := by
  intro c hc
  obtain ⟨i, hi, rfl⟩ := List.getElem_of_mem hc
  have h16 : i < 16 := by simpa using hi
  have := (hp.cells i h16).1
  simpa using this
 have e : p.Cells.toList = p.Cells.toList.take j ++ (p.Cells[j] :: p.Cells.toList.drop (j + 1)) := by
  have h1 : j < p.Cells.toList.length := by simpa using hj
  have h2 : p.Cells.toList.drop j = p.Cells.toList[j] :: p.Cells.toList.drop (j + 1) := List.drop_eq_getElem_cons h1
  have h3 : p.Cells.toList[j] = p.Cells[j] := by simp
  rw [← h3, ← h2, List.take_append_drop]
 refine ⟨Js p.LSN 8 ++ Js p.ID 4 ++ J1q (p.Cells.toList.take j), J1q (p.Cells.toList.drop (j + 1)) ++ List.replicate 24 0 ++ tail, ?_, ?_⟩
 ·have e2 : J1q p.Cells.toList = J1q (p.Cells.toList.take j) ++ (J6X p.Cells[j] ++ J1q (p.Cells.toList.drop (j + 1))) := by
   conv => lhs; rw [e]
   simp only [J1q, List.map_append, List.map_cons, List.flatten_append, List.flatten_cons]
  unfold J08
  rw [e2]
  simp only [List.append_assoc]
 ·simp only [List.length_append, Jk]
  rw [J8m fun c hc => hd c (List.mem_of_mem_take hc)]
  simp; omega
theorem J8U {p : T_api_Page} (hp : J3c p) : (J08 p).length = 244 := by
 have hd : ∀ c ∈ p.Cells.toList, c.Data.length ≤ 12 := by
  intro c hc
  obtain ⟨i, hi, rfl⟩ := List.getElem_of_mem hc
  have h16 : i < 16 := by simpa using hi
  have := (hp.cells i h16).1
  simpa using this
 unfold J08
 simp only [List.length_append, Jk, List.length_replicate]
 rw [J8m hd]
 simp
theorem JnZ {p : T_api_Page} (hp : J3c p) (tail : List UInt8) (ht : tail.length = 12) : J2D (J08 p ++ tail) = some (p, true) := by
 have i0 := hp.id0; have i1 := hp.id1; have l0 := hp.lsn0; have l1 := hp.lsn1
 have hlen : (J08 p ++ tail).length = 256 := by rw [List.length_append, J8U hp, ht]
 have hl8 : Jy (J08 p ++ tail) 0 8 = some p.LSN := by
  have e : J08 p ++ tail = [] ++ (Js ((p.LSN.toNat : Nat) : Int) 8 ++ (Js p.ID 4 ++ J1q p.Cells.toList ++ List.replicate 24 0 ++ tail)) := by
   rw [show ((p.LSN.toNat : Nat) : Int) = p.LSN by omega]; simp only [J08, List.append_assoc, List.nil_append]
  have h := Jhz [] (Js p.ID 4 ++ J1q p.Cells.toList ++ List.replicate 24 0 ++ tail) (n := p.LSN.toNat) (k := 8) (by omega) (by omega) (by omega) (by omega) (by rw [← e]; omega)
  rw [← e] at h
  have h' : J09 (J08 p ++ tail) 0 8 = some (((p.LSN.toNat : Nat) : Int), 0) := h
  simp only [Jy, h', Option.bind_some, show ((p.LSN.toNat : Nat) : Int) = p.LSN by omega]
 have hid : Jy (J08 p ++ tail) 8 4 = some p.ID := by
  have e : J08 p ++ tail = Js p.LSN 8 ++ (Js ((p.ID.toNat : Nat) : Int) 4 ++ (J1q p.Cells.toList ++ List.replicate 24 0 ++ tail)) := by
   rw [show ((p.ID.toNat : Nat) : Int) = p.ID by omega]; simp only [J08, List.append_assoc]
  have h := Jhz (Js p.LSN 8) (J1q p.Cells.toList ++ List.replicate 24 0 ++ tail) (n := p.ID.toNat) (k := 4) (by omega) (by omega) (by omega) (by omega) (by rw [← e]; omega)
  rw [← e, Jk] at h
  have h' : J09 (J08 p ++ tail) 8 4 = some (((p.ID.toNat : Nat) : Int), 0) := h
  simp only [Jy, h', Option.bind_some, show ((p.ID.toNat : Nat) : Int) = p.ID by omega]
 unfold J2D
 simp only [hl8, hid, Option.bind_some]
 obtain ⟨r, hr, rfl⟩ := J0L (f := fun q : Int × T_api_Page => J0f (J08 p ++ tail) ⟨0, 0, Vector.replicate 16 ⟨false, []⟩⟩ q.1 q.2)
  (fun q => ∃ j : Nat, q.1 = j ∧ j ≤ 16 ∧ q.2.ID = p.ID ∧ q.2.LSN = p.LSN ∧ ∀ (i : Nat) (h : i < 16), q.2.Cells[i] = if i < j then p.Cells[i] else ⟨false, []⟩) (fun q => (16 - q.1).toNat) (fun r => r = (p, true)) (fun q ⟨j, hj, h4, g1, g2, g3⟩ => by
  obtain ⟨j', q⟩ := q
  simp only at hj g1 g2 g3
  subst hj
  by_cases hlt : j < 16
  ·left
   have e1 : ((j : Nat) : Int) < 16 := by omega
   have e2 : IntKind.wrap .i64 (12 + IntKind.wrap .i64 ((j : Int) * 13)) = ((12 + 13 * j : Nat) : Int) := by
    rw [wrap64 (n := (j : Int) * 13) (by omega) (by omega), wrap64 (by omega) (by omega)]; omega
   obtain ⟨A, R, hs, hA⟩ := Jgb hp tail hlt
   have hck := hp.cells j hlt
   generalize hc : p.Cells[j] = c at hs hck
   obtain ⟨hc1, hc2, hc3⟩ := hck
   have hb : ∃ h : 12 + 13 * j < (J08 p ++ tail).length, ((J08 p ++ tail)[12 + 13 * j]'h).toNat = if c.Set then c.Data.length else 255 := by
    refine ⟨by omega, ?_⟩
    have h5 : (J08 p ++ tail)[12 + 13 * j]? = some (UInt8.ofNat (J3k (if c.Set then (c.Data.length : Int) else 255) 0).toNat) := by
     rw [hs, List.getElem?_append_right (by omega), hA, Nat.sub_self]
     simp only [J6X, List.append_assoc]
     rw [List.getElem?_append_left (by rw [Jk]; omega), JfB (by omega)]
    rw [List.getElem?_eq_getElem (by omega)] at h5
    injection h5 with h5
    rw [h5]
    have hx : (if c.Set then (c.Data.length : Int) else 255) = (((if c.Set then c.Data.length else 255 : Nat) : Nat) : Int) := by split <;> simp
    have hx2 : (if c.Set then c.Data.length else 255 : Nat) < 256 := by split <;> omega
    rw [hx]
    have h6 := J9S (((if c.Set then c.Data.length else 255 : Nat) : Nat) : Int) 0
    rw [Jgo (by omega)] at h6 ⊢
    simp only [Nat.mul_zero, Nat.pow_zero, Nat.div_one, Nat.mod_eq_of_lt hx2] at h6 ⊢
    omega
   obtain ⟨hb0, hb⟩ := hb
   have e3 : Jy (J08 p ++ tail) ((12 + 13 * j : Nat) : Int) 1 = some (((if c.Set then c.Data.length else 255 : Nat) : Nat) : Int) := by
    simp only [Jy, Jcg _ (show (J08 p ++ tail).length ≤ 1000 by omega) hb0, Option.bind_some, hb]
   cases hset : c.Set with
   | false =>
    simp only [hset, Bool.false_eq_true, if_false] at e3
    refine ⟨⟨((j + 1 : Nat) : Int), q⟩, by simp only [J0f, e1, decide_true, if_true, e2, e3, Option.bind_some, J1P (show j < 1000000 by omega)]; rfl, ⟨j + 1, rfl, by omega, g1, g2, fun i hi => ?_⟩, by simp; omega⟩
    rw [g3 i hi]
    by_cases hij : i < j
    ·rw [if_pos hij, if_pos (by omega)]
    ·by_cases hij2 : i = j
     ·subst hij2
      rw [if_neg hij, if_pos (by omega), hc]
      have := hc2 hset
      cases c
      simp_all
     ·rw [if_neg hij, if_neg (by omega)]
   | true =>
    simp only [hset, if_true] at e3
    have e4 : (((c.Data.length : Nat) : Int) == 255) = false := by simp; omega
    have h12 : ¬ ((c.Data.length : Nat) : Int) > 12 := by omega
    have e5 : IntKind.wrap .i64 (((12 + 13 * j : Nat) : Int) + 1) = ((13 + 13 * j : Nat) : Int) := by rw [wrap64 (by omega) (by omega)]; omega
    have e6 : IntKind.wrap .i64 (((13 + 13 * j : Nat) : Int) + ((c.Data.length : Nat) : Int)) = ((13 + 13 * j + c.Data.length : Nat) : Int) := by rw [wrap64 (by omega) (by omega)]; omega
    have e7 : J28 (J08 p ++ tail) (some ((13 + 13 * j : Nat) : Int)) (some ((13 + 13 * j + c.Data.length : Nat) : Int)) = some c.Data := by
     have hs2 : J08 p ++ tail = (A ++ Js (if c.Set then (c.Data.length : Int) else 255) 1) ++ (c.Data ++ (List.replicate (12 - c.Data.length) 0 ++ R)) := by
      rw [hs]; simp only [J6X, List.append_assoc]
     rw [hs2]
     exact JqY (by rw [List.length_append, Jk]; omega) (by rw [List.length_append, Jk]; omega)
    refine ⟨⟨((j + 1 : Nat) : Int), ⟨q.ID, q.LSN, J70 q.Cells (j : Int) ⟨true, c.Data⟩⟩⟩, by simp only [J0f, e1, decide_true, if_true, e2, e3, Option.bind_some, e4, Bool.false_eq_true, if_false, h12, decide_false, e5, e6, e7, J6A hlt, J3g _ j hlt, J1P (show j < 1000000 by omega)], ⟨j + 1, rfl, by omega, g1, g2, fun i hi => ?_⟩, by simp; omega⟩
    show (J70 q.Cells (j : Int) ⟨true, c.Data⟩)[i] = _
    simp only [J70, Int.toNat_natCast, Vector.getElem_setIfInBounds]
    by_cases hij2 : j = i
    ·subst hij2
     rw [if_pos rfl, if_pos (by omega), hc]
     cases c
     simp_all
    ·rw [if_neg hij2, g3 i hi]
     by_cases hij : i < j
     ·rw [if_pos hij, if_pos (by omega)]
     ·rw [if_neg hij, if_neg (by omega)]
  ·right
   obtain rfl : j = 16 := by omega
   have e1 : ¬ (((16 : Nat) : Nat) : Int) < 16 := by omega
   refine ⟨(q, true), by simp only [J0f, e1, decide_false, Bool.false_eq_true, if_false, J4l, Option.map_some], ?_⟩
   have hq : q = p := by
    cases q; cases p
    simp only [T_api_Page.mk.injEq]
    refine ⟨g1, g2, Vector.ext fun i hi => ?_⟩
    have := g3 i hi
    rw [if_pos hi] at this
    exact this
   rw [hq]) (0, ⟨p.ID, p.LSN, Vector.replicate 16 ⟨false, []⟩⟩) ⟨0, rfl, by omega, rfl, rfl, fun i hi => by simp⟩
 exact hr
end Go.Am
end
section
namespace Go.Am
theorem Jlg {p : T_api_Page} (hp : J3c p) : ∃ s, J0x p = some (s, 0) ∧ s.length = 256 ∧ J0w s = some (p, 0) := by
 obtain ⟨c, hc, henc⟩ := JeR hp
 obtain ⟨c0, c1⟩ := Jnn hc
 have l0 := hp.lsn0; have l1 := hp.lsn1
 have hw : IntKind.wrap .i64 c = c := wrap64 (by omega) (by omega)
 rw [hw] at henc
 have hbl := J8U hp
 generalize hs : J08 p ++ Js c 4 ++ Js p.LSN 8 = s at henc
 have hlen : s.length = 256 := by rw [← hs]; simp [hbl, Jk]
 refine ⟨s, henc, hlen, ?_⟩
 have hrd : J2D s = some (p, true) := by
  rw [← hs, List.append_assoc]
  exact JnZ hp _ (by simp [Jk])
 have t8 : s.take 8 = Js p.LSN 8 := by
  rw [← hs]
  simp only [J08, List.append_assoc]
  rw [List.take_append_of_le_length (by rw [Jk]; omega), List.take_of_length_le (by rw [Jk]; omega)]
 have d248 : s.drop 248 = Js p.LSN 8 := by
  rw [← hs, List.drop_append, List.drop_of_length_le (by simp [hbl, Jk]), List.nil_append]
  simp [hbl, Jk]
 have t244 : s.take 244 = J08 p := by
  rw [← hs, List.append_assoc, List.take_append_of_le_length (by omega), List.take_of_length_le (by omega)]
 have hsum : Jy s 244 4 = some c := by
  have e : s = J08 p ++ (Js ((c.toNat : Nat) : Int) 4 ++ Js p.LSN 8) := by
   rw [show ((c.toNat : Nat) : Int) = c by omega, ← hs, List.append_assoc]
  have h := Jhz (J08 p) (Js p.LSN 8) (n := c.toNat) (k := 4) (by omega) (by omega) (by omega) (by omega) (by rw [← e]; omega)
  rw [← e, hbl] at h
  have h' : J09 s 244 4 = some (((c.toNat : Nat) : Int), 0) := h
  simp only [Jy, h', Option.bind_some, show ((c.toNat : Nat) : Int) = c by omega]
 have nb : s ≠ blk := by
  intro h
  have hl : p.LSN = 0 := by
   have h1 : Js p.LSN 8 = Js 0 8 := by rw [← t8, h, Jl1]
   exact Jqg l0 l1 (by omega) (by omega) h1
  obtain ⟨A, R, hcell, hA⟩ := Jgb hp (Js c 4 ++ Js p.LSN 8) (j := 0) (by omega)
  have hset : p.Cells[0].Set = false := by
   cases hh : p.Cells[0].Set with
   | false => rfl
   | true => exact ((hp.cells 0 (by omega)).2.2 hh hl).elim
  have h12 : s[12]? = some 255 := by
   rw [← hs, List.append_assoc, hcell, List.getElem?_append_right (by omega), hA]
   simp only [J6X, hset, Bool.false_eq_true, if_false, List.append_assoc]
   rw [List.getElem?_append_left (by rw [Jk]; omega), JfB (by omega)]
   decide +kernel
  have b12 : blk[12]? = some 0 := by decide +kernel
  rw [h, b12] at h12
  exact absurd h12 (by decide)
 unfold J0w
 have e0 : (((s.length : Nat) : Int) != 256) = false := by rw [hlen]; rfl
 have e1 : J28 s none (some 8) = some (s.take 8) := JbC s (b := 8) (by omega)
 have e2 : J28 s (some 248) none = some (s.drop 248) := JfH s (a := 248) (by omega)
 have e3 : J28 s none (some 244) = some (s.take 244) := JbC s (b := 244) (by omega)
 have nb' : (s == blk) = false := by simpa using nb
 simp only [e0, Bool.false_eq_true, if_false, Jb6, Option.bind_some, nb', e1, e2, t8, d248, beq_self_eq_true, if_true, hsum, e3, t244, hc, hw, bne_self_eq_false, hrd, henc]
end Go.Am
end
section
namespace Go.Am
end Go.Am
end
section
namespace Go.Am
def JdY (p : T_api_Page) : Prop := ∀ (i : Nat) (h : i < 16), J4q p.LSN p.Cells[i]
theorem JhX (p : T_api_Page) : ∃ b, J3W p = some b ∧ (b = true ↔ JdY p) := by
 refine J0L (f := fun s : Int => J07 p.Cells p s) (fun s => ∃ j : Nat, s = j ∧ j ≤ 16 ∧ ∀ (i : Nat) (h : i < 16), i < j → J4q p.LSN p.Cells[i]) (fun s => (16 - s).toNat)
  (fun b => b = true ↔ JdY p) (fun s ⟨j, hj, h4, hc⟩ => ?_) 0 ⟨0, rfl, by omega, fun i h hh => by omega⟩
 subst hj
 by_cases hlt : j < 16
 ·have e1 : ((j : Nat) : Int) < 16 := by omega
  have e2 := J3g p.Cells j hlt
  have e3 := J1P (show j < 1000000 by omega)
  have bad : ¬ J4q p.LSN p.Cells[j] → (false = true ↔ JdY p) := fun h1 => ⟨fun h => (by cases h), fun h2 => (h1 (h2 j hlt)).elim⟩
  have nxt : J4q p.LSN p.Cells[j] → ∀ (i : Nat) (h : i < 16), i < j + 1 → J4q p.LSN p.Cells[i] := by
   intro hok i hi hij
   by_cases hh : i < j
   ·exact hc i hi hh
   ·obtain rfl : i = j := by omega
    exact hok
  by_cases h12 : (((p.Cells[j]).Data.length : Nat) : Int) > 12
  ·right
   exact ⟨false, by simp only [J07, e1, decide_true, if_true, e2, Option.bind_some, h12], bad fun h => by have := h.1; omega⟩
  ·by_cases hs : (p.Cells[j]).Set = true
   ·by_cases hl : p.LSN = 0
    ·right
     exact ⟨false, by simp only [J07, e1, decide_true, if_true, e2, Option.bind_some, h12, decide_false, Bool.false_eq_true, if_false, hs, hl, beq_self_eq_true], bad fun h => h.2.2 hs hl⟩
    ·left
     have e4 : (p.LSN == 0) = false := by simpa using hl
     exact ⟨((j + 1 : Nat) : Int), by simp only [J07, e1, decide_true, if_true, e2, Option.bind_some, h12, decide_false, Bool.false_eq_true, if_false, hs, e4, e3], ⟨j + 1, rfl, by omega, nxt ⟨by omega, (fun h => by rw [hs] at h; cases h), fun _ => hl⟩⟩, by omega⟩
   ·have hs' : (p.Cells[j]).Set = false := by simpa using hs
    by_cases hd : (p.Cells[j]).Data = []
    ·left
     exact ⟨((j + 1 : Nat) : Int), by simp only [J07, e1, decide_true, if_true, e2, Option.bind_some, h12, decide_false, Bool.false_eq_true, if_false, hs', hd, beq_self_eq_true, e3]; rfl, ⟨j + 1, rfl, by omega, nxt ⟨by omega, fun _ => hd, fun h => (hs h).elim⟩⟩, by omega⟩
    ·right
     have e4 : ((p.Cells[j]).Data == []) = false := by simpa using hd
     exact ⟨false, by simp only [J07, e1, decide_true, if_true, e2, Option.bind_some, h12, decide_false, Bool.false_eq_true, if_false, hs', e4], bad fun h => hd (h.2.1 hs')⟩
 ·right
  have e1 : ¬ ((j : Nat) : Int) < 16 := by omega
  exact ⟨true, by simp only [J07, e1, decide_false, Bool.false_eq_true, if_false, J5Z, Option.map_some], fun _ i h => hc i h (by omega), fun _ => rfl⟩
end Go.Am
end
section
namespace Go.Am
theorem JdA {n : Int} (h0 : 0 ≤ n) (h1 : n ≤ 1000000) : J1R n = some (List.replicate n.toNat 0) := by
 have e : (0 : Int) ≤ n ∧ n ≤ n ∧ ((1 : Nat) : Int) * n ≤ 281474976710656 ∧ n ≤ 281474976710656 := by omega
 have e2 : toStr (List.replicate n.toNat (0 : Int)) = List.replicate n.toNat 0 := by
  simp [toStr]
 unfold J1R mkS
 rw [if_pos e, Option.bind_some, e2]
theorem JnR : J9l = some blk := by
 unfold J9l
 rw [JdA (by omega) (by omega)]
 rfl
theorem Jrq (n : Int) : JeT n = J7e n := rfl
theorem Jl3 (p : T_api_Page) : J36 p = J1f p := by
 unfold J36 J1f J0O
 by_cases h1 : p.ID ≥ 0
 ·by_cases h2 : p.ID < 64
  ·simp only [h1, h2, decide_true, if_true, Option.bind_some]
  ·simp only [h1, h2, decide_true, decide_false, if_true, Bool.false_eq_true, if_false, Option.bind_some]
 ·simp only [h1, decide_false, Bool.false_eq_true, if_false, Option.bind_some]
theorem Jmz (p : T_api_Page) : ∃ b, J1f p = some b ∧ (b = true ↔ (0 ≤ p.ID ∧ p.ID < 64 ∧ 0 ≤ p.LSN ∧ p.LSN ≤ 1099511627776)) := by
 unfold J1f J0O
 by_cases h1 : p.ID ≥ 0
 ·by_cases h2 : p.ID < 64
  ·by_cases h3 : p.LSN ≥ 0
   ·refine ⟨decide (p.LSN ≤ 1099511627776), by simp only [h1, h2, h3, decide_true, if_true, Option.bind_some], ?_⟩
    rw [decide_eq_true_eq]
    exact ⟨fun h => ⟨h1, h2, h3, h⟩, fun h => h.2.2.2⟩
   ·exact ⟨false, by simp only [h1, h2, h3, decide_true, decide_false, if_true, Bool.false_eq_true, if_false, Option.bind_some], by simp; omega⟩
  ·exact ⟨false, by simp only [h1, h2, decide_true, decide_false, if_true, Bool.false_eq_true, if_false, Option.bind_some], by simp; omega⟩
 ·exact ⟨false, by simp only [h1, decide_false, Bool.false_eq_true, if_false, Option.bind_some], by simp; omega⟩
theorem Jiy (p : T_api_Page) : ∃ b, J4c p = some b ∧ (b = true ↔ JdY p) := by
 refine J0L (f := fun s : Int => J1h p s) (fun s => ∃ j : Nat, s = j ∧ j ≤ 16 ∧ ∀ (i : Nat) (h : i < 16), i < j → J4q p.LSN p.Cells[i]) (fun s => (16 - s).toNat)
  (fun b => b = true ↔ JdY p) (fun s ⟨j, hj, h4, hc⟩ => ?_) 0 ⟨0, rfl, by omega, fun i h hh => by omega⟩
 subst hj
 by_cases hlt : j < 16
 ·have e1 : ((j : Nat) : Int) < 16 := by omega
  have e2 := J3g p.Cells j hlt
  have e3 := J1P (show j < 1000000 by omega)
  have e0 := J6A hlt
  have bad : ¬ J4q p.LSN p.Cells[j] → (false = true ↔ JdY p) := fun h1 => ⟨fun h => (by cases h), fun h2 => (h1 (h2 j hlt)).elim⟩
  have nxt : J4q p.LSN p.Cells[j] → ∀ (i : Nat) (h : i < 16), i < j + 1 → J4q p.LSN p.Cells[i] := by
   intro hok i hi hij
   by_cases hh : i < j
   ·exact hc i hi hh
   ·obtain rfl : i = j := by omega
    exact hok
  by_cases h12 : (((p.Cells[j]).Data.length : Nat) : Int) ≤ 12
  ·by_cases hs : (p.Cells[j]).Set = true
   ·have v1 : J0l p.Cells[j] = some true := by simp only [J0l, h12, decide_true, if_true, hs]
    by_cases hl : p.LSN = 0
    ·right
     exact ⟨false, by simp only [J1h, e1, decide_true, if_true, e0, e2, Option.bind_some, v1, hs, hl, beq_self_eq_true], bad fun h => h.2.2 hs hl⟩
    ·left
     have e4 : (p.LSN == 0) = false := by simpa using hl
     exact ⟨((j + 1 : Nat) : Int), by simp only [J1h, e1, decide_true, if_true, e0, e2, Option.bind_some, v1, e4, Bool.false_eq_true, if_false, e3], ⟨j + 1, rfl, by omega, nxt ⟨by omega, (fun h => by rw [hs] at h; cases h), fun _ => hl⟩⟩, by omega⟩
   ·have hs' : (p.Cells[j]).Set = false := by simpa using hs
    by_cases hd : (p.Cells[j]).Data = []
    ·have v1 : J0l p.Cells[j] = some true := by simp only [J0l, h12, decide_true, if_true, hs', Bool.false_eq_true, if_false]; rw [hd]; rfl
     left
     refine ⟨((j + 1 : Nat) : Int), ?_, ⟨j + 1, rfl, by omega, nxt ⟨by omega, fun _ => hd, fun h => (hs h).elim⟩⟩, by omega⟩
     simp only [J1h, e1, decide_true, if_true, e0, e2, Option.bind_some, v1, hs', Bool.false_eq_true, if_false, e3]
     split <;> rfl
    ·right
     have e4 : ((p.Cells[j]).Data == []) = false := by simpa using hd
     have v1 : J0l p.Cells[j] = some false := by simp only [J0l, h12, decide_true, if_true, hs', Bool.false_eq_true, if_false, e4]
     exact ⟨false, by simp only [J1h, e1, decide_true, if_true, e0, e2, Option.bind_some, v1, Bool.false_eq_true, if_false], bad fun h => hd (h.2.1 hs')⟩
  ·right
   have v1 : J0l p.Cells[j] = some false := by simp only [J0l, h12, decide_false, Bool.false_eq_true, if_false]
   exact ⟨false, by simp only [J1h, e1, decide_true, if_true, e0, e2, Option.bind_some, v1, Bool.false_eq_true, if_false], bad fun h => h12 (by have := h.1; omega)⟩
 ·right
  have e1 : ¬ ((j : Nat) : Int) < 16 := by omega
  exact ⟨true, by simp only [J1h, e1, decide_false, Bool.false_eq_true, if_false, J6T, Option.map_some], fun _ i h => hc i h (by omega), fun _ => rfl⟩
theorem JnX (p : T_api_Page) : J4c p = J3W p := by
 obtain ⟨b, h1, h2⟩ := JhX p
 obtain ⟨c, h3, h4⟩ := Jiy p
 rw [h1, h3]
 congr 1
 cases b <;> cases c <;> simp_all
def JaB (p : T_api_Page) : List UInt8 := J08 p ++ Js ((crc (J08 p) : Nat) : Int) 4 ++ Js p.LSN 8
theorem JdI {p : T_api_Page} (hp : J3c p) : J0x p = some (JaB p, 0) := by
 obtain ⟨c, h1, h2⟩ := JeR hp
 rw [JfF _ (by rw [J8U hp]; omega)] at h1
 injection h1 with h1
 subst h1
 have hc := Jgk (J08 p)
 rw [wrap64 (by omega) (by omega)] at h2
 exact h2
theorem JgO {p : T_api_Page} (hp : J3c p) : ∀ (m j : Nat), j + m = 16 →
  Ju (fun s : List UInt8 × Int => J2U p s.1 s.2) (Js p.LSN 8 ++ Js p.ID 4 ++ J1q (p.Cells.toList.take j), (j : Int)) = some (JaB p, 0) := by
 have hd : ∀ c ∈ p.Cells.toList, c.Data.length ≤ 12 := by
  intro c hc
  obtain ⟨i, hi, rfl⟩ := List.getElem_of_mem hc
  have h16 : i < 16 := by simpa using hi
  have := (hp.cells i h16).1
  simpa using this
 have hlen : ∀ j, j ≤ 16 → (Js p.LSN 8 ++ Js p.ID 4 ++ J1q (p.Cells.toList.take j)).length = 12 + 13 * j := by
  intro j hj
  have hl : (J1q (p.Cells.toList.take j)).length = 13 * j := by
   rw [J8m fun c hc => hd c (List.mem_of_mem_take hc)]
   simp; omega
  simp only [List.length_append, Jk, hl]
 intro m
 induction m with
 | zero =>
  intro j hj
  obtain rfl : j = 16 := by omega
  refine J22 ?_
  have e1 : ¬ (((16 : Nat) : Nat) : Int) < 16 := by omega
  have e5 : p.Cells.toList.take 16 = p.Cells.toList := List.take_of_length_le (by simp)
  have h0 := hlen 16 (by omega)
  rw [e5] at h0 ⊢
  generalize hx : Js p.LSN 8 ++ Js p.ID 4 ++ J1q p.Cells.toList = x at h0
  have a0 : IntKind.wrap .i64 (244 - ((x.length : Nat) : Int)) = 24 := by rw [h0, wrap64 (by omega) (by omega)]; omega
  have a1 : J1R 24 = some (List.replicate 24 0) := JdA (n := 24) (by omega) (by omega)
  have a6 : x ++ List.replicate 24 0 = J08 p := by rw [← hx]; rfl
  have a2 : J3e x (List.replicate 24 0) = some (J08 p) := by rw [← a6]; exact J9X (by simp; omega)
  have a3 := JlV (J08 p) (by rw [J8U hp]; omega)
  have hc := Jgk (J08 p)
  have a7 : IntKind.wrap .i64 ((crc (J08 p) : Nat) : Int) = ((crc (J08 p) : Nat) : Int) := wrap64 (by omega) (by omega)
  have a4 : J18 (J08 p) ((crc (J08 p) : Nat) : Int) 4 = some (J08 p ++ Js ((crc (J08 p) : Nat) : Int) 4) := J8k _ _ (k := 4) (by omega) (by omega) (by rw [J8U hp]; omega)
  have a5 : J18 (J08 p ++ Js ((crc (J08 p) : Nat) : Int) 4) p.LSN 8 = some (JaB p) := J8k _ _ (k := 8) (by omega) (by omega) (by rw [List.length_append, J8U hp, Jk]; omega)
  simp only [J2U, e1, decide_false, Bool.false_eq_true, if_false, J6m, a0, a1, a2, a3, a7, a4, a5, Option.bind_some, Option.map_some]
 | succ m ih =>
  intro j hj
  have hlt : j < 16 := by omega
  have e1 : ((j : Nat) : Int) < 16 := by omega
  have h0 := hlen j (by omega)
  have e3 : p.Cells.toList.take (j + 1) = p.Cells.toList.take j ++ [p.Cells[j]] := by
   rw [List.take_add_one, List.getElem?_eq_getElem (by simpa using hlt)]
   simp
  have hcl := (hp.cells j hlt).1
  have go : ∀ n : Int, n = (if (p.Cells[j]).Set then ((p.Cells[j]).Data.length : Int) else 255) →
    J3O (Js p.LSN 8 ++ Js p.ID 4 ++ J1q (p.Cells.toList.take j)) (j : Int) n p = some (.inl (Js p.LSN 8 ++ Js p.ID 4 ++ J1q (p.Cells.toList.take (j + 1)), ((j + 1 : Nat) : Int))) := by
   intro n hn
   rw [e3, Jf1, ← List.append_assoc]
   generalize Js p.LSN 8 ++ Js p.ID 4 ++ J1q (p.Cells.toList.take j) = x at h0
   have a0 : IntKind.wrap .i64 (12 - (((p.Cells[j]).Data.length : Nat) : Int)) = ((12 - (p.Cells[j]).Data.length : Nat) : Int) := by rw [wrap64 (by omega) (by omega)]; omega
   have a1 : J1R ((12 - (p.Cells[j]).Data.length : Nat) : Int) = some (List.replicate (12 - (p.Cells[j]).Data.length) 0) := by
    rw [JdA (by omega) (by omega), Int.toNat_natCast]
   have a2 : J18 x n 1 = some (x ++ Js n 1) := J8k _ _ (k := 1) (by omega) (by omega) (by omega)
   have a3 : J3e (p.Cells[j]).Data (List.replicate (12 - (p.Cells[j]).Data.length) 0) = some ((p.Cells[j]).Data ++ List.replicate (12 - (p.Cells[j]).Data.length) 0) := J9X (by simp; omega)
   have a4 : J3e (x ++ Js n 1) ((p.Cells[j]).Data ++ List.replicate (12 - (p.Cells[j]).Data.length) 0) = some (x ++ J6X p.Cells[j]) := by
    rw [J9X (by simp only [List.length_append, Jk, List.length_replicate]; omega)]
    simp only [J6X, hn, List.append_assoc]
   simp only [J3O, a2, J6A hlt, J3g _ j hlt, a0, a1, a3, a4, Option.bind_some, J6c, J1P (show j < 1000000 by omega)]
  refine (J2J (s' := (Js p.LSN 8 ++ Js p.ID 4 ++ J1q (p.Cells.toList.take (j + 1)), ((j + 1 : Nat) : Int))) ?_).trans (ih (j + 1) (by omega))
  simp only [J2U, e1, decide_true, if_true, J6A hlt, J3g _ j hlt, Option.bind_some]
  cases hs : (p.Cells[j]).Set with
  | true => simp only [if_true]; exact go _ (by rw [hs]; rfl)
  | false => simp only [Bool.false_eq_true, if_false]; exact go _ (by rw [hs]; rfl)
theorem JnL (p : T_api_Page) : ∃ e, J4m p = some e ∧ (e = 0 ↔ J3c p) ∧ (e ≠ 0 → J0x p = some ([], e)) := by
 obtain ⟨a, h1, h2⟩ := Jmz p
 obtain ⟨b, h3, h4⟩ := JhX p
 unfold J4m
 simp only [Jl3, JnX, h1, h3, Option.bind_some]
 cases a with
 | false =>
  refine ⟨1, rfl, ⟨fun h => (by cases h), fun h => ?_⟩, fun _ => ?_⟩
  ·have := h2.2 ⟨h.id0, h.id1, h.lsn0, h.lsn1⟩
   cases this
  ·unfold J0x
   simp only [h1, Option.bind_some, Bool.false_eq_true, if_false]
 | true =>
  obtain ⟨i0, i1, l0, l1⟩ := h2.1 rfl
  cases b with
  | false =>
   refine ⟨22, rfl, ⟨fun h => (by cases h), fun h => ?_⟩, fun _ => ?_⟩
   ·have := h4.2 h.cells
    cases this
   ·unfold J0x
    simp only [h1, h3, Option.bind_some, if_true, Bool.false_eq_true, if_false]
  | true => exact ⟨0, rfl, ⟨fun _ => ⟨i0, i1, l0, l1, h4.1 rfl⟩, fun _ => rfl⟩, fun h => (h rfl).elim⟩
theorem Jc6 (p : T_api_Page) : J2d p = J0x p := by
 obtain ⟨e, h1, h2, h3⟩ := JnL p
 unfold J2d
 simp only [h1, Option.bind_some]
 by_cases he : e = 0
 ·have hp := h2.1 he
  have e0 : (e != 0) = false := by simp [he]
  have a1 : J18 [] p.LSN 8 = some (Js p.LSN 8) := J8k [] _ (k := 8) (by omega) (by omega) (by simp)
  have a2 : J18 (Js p.LSN 8) p.ID 4 = some (Js p.LSN 8 ++ Js p.ID 4) := J8k _ _ (k := 4) (by omega) (by omega) (by rw [Jk]; omega)
  simp only [e0, Bool.false_eq_true, if_false, a1, a2, Option.bind_some]
  rw [JdI hp]
  have h := JgO hp 16 0 (by omega)
  simp only [List.take_zero, J1q, List.map_nil, List.flatten_nil, List.append_nil] at h
  exact h
 ·have e0 : (e != 0) = true := by simpa using he
  simp only [e0, if_true]
  rw [h3 he]
end Go.Am
end
section
namespace Go.Am
set_option maxRecDepth 16000
theorem JfX (p : T_api_Page) : ∃ r, J0x p = some r := by
 obtain ⟨r, h, _⟩ := Jgx p
 exact ⟨r, h⟩
theorem JgP {s : List UInt8} {at_ k n : Int} (h : Jy s at_ k = some n) : ∃ e, J09 s at_ k = some (n, e) := by
 unfold Jy at h
 obtain ⟨r, h1, h2⟩ := Option.bind_eq_some_iff.1 h
 injection h2 with h2
 exact ⟨r.2, by rw [h1, ← h2]⟩
theorem JqF (s : List UInt8) (hs : s.length ≤ 1000) {at_ k : Nat} (h1 : 1 ≤ k) (h8 : k ≤ 4) (ha : at_ ≤ 1000) : ∃ (n : Nat) (e : Int), J09 s at_ k = some ((n : Int), e) ∧ n < 2 ^ 32 := by
 have a1 : ¬ (k : Int) < 1 := by omega
 have a2 : ¬ (k : Int) > 8 := by omega
 have a3 : ¬ (at_ : Int) < 0 := by omega
 unfold J09
 simp only [a1, a2, a3, decide_false, Bool.false_eq_true, if_false]
 by_cases c1 : (at_ : Int) > (s.length : Int)
 ·exact ⟨0, 5, by simp only [c1, decide_true, if_true]; rfl, by decide⟩
 ·have e0 : IntKind.wrap .i64 ((s.length : Int) - at_) = (s.length : Int) - at_ := wrap64 (by omega) (by omega)
  by_cases c2 : (s.length : Int) - at_ < k
  ·exact ⟨0, 5, by simp only [c1, e0, c2, decide_false, decide_true, Bool.false_eq_true, if_false, if_true]; rfl, by decide⟩
  ·simp only [c1, e0, c2, decide_false, Bool.false_eq_true, if_false]
   obtain ⟨r, hr, n, e, rfl, hn⟩ := J0L (f := fun q : Int × Int => J0a s at_ k q.1 q.2) (fun q => ∃ j x : Nat, q.2 = j ∧ q.1 = x ∧ j ≤ k ∧ x < 2 ^ (8 * j)) (fun q => (k - q.2).toNat)
    (fun r => ∃ (n : Nat) (e : Int), r = ((n : Int), e) ∧ n < 2 ^ 32) (fun q ⟨j, x, hj, hx, hjk, hxl⟩ => by
    obtain ⟨x', j'⟩ := q
    simp only at hj hx
    subst hj hx
    by_cases hlt : j < k
    ·left
     have e1 : ((j : Nat) : Int) < (k : Int) := by omega
     have e2 : IntKind.wrap .i64 ((at_ : Int) + (j : Int)) = ((at_ + j : Nat) : Int) := by rw [wrap64 (by omega) (by omega)]; omega
     have e3 : IntKind.wrap .i64 (8 * (j : Int)) = ((8 * j : Nat) : Int) := by rw [wrap64 (by omega) (by omega)]; omega
     have hlt2 : at_ + j < s.length := by omega
     have hu : (s[at_ + j]).toNat < 256 := UInt8.toNat_lt _
     have e4 : Jbb .u64 (IntKind.wrap .u64 (((s[at_ + j]).toNat : Nat) : Int)) ((8 * j : Nat) : Int) = some (IntKind.wrap .u64 ((((s[at_ + j]).toNat : Nat) : Int) * 2 ^ (8 * j))) := by
      rw [J6H (by omega) (by omega)]
      simp only [Jbb]
      rw [if_neg (by omega)]
      have : min (((8 * j : Nat) : Int)).toNat IntKind.u64.bits = 8 * j := by
       simp only [Int.toNat_natCast]
       exact Nat.min_eq_left (by show 8 * j ≤ 64; omega)
      rw [this]
     have e5 := JnS (x := x) (b := (s[at_ + j]).toNat) (j := j) (by omega) hxl hu
     refine ⟨(((x + (s[at_ + j]).toNat * 2 ^ (8 * j) : Nat) : Int), ((j + 1 : Nat) : Int)), ?_, ⟨j + 1, x + (s[at_ + j]).toNat * 2 ^ (8 * j), rfl, rfl, by omega, ?_⟩, by show ((k : Int) - ((j + 1 : Nat) : Int)).toNat < ((k : Int) - (j : Int)).toNat; omega⟩
     ·simp only [J0a, e1, decide_true, if_true, e2, J7p hlt2, Option.bind_some, e3, e4, e5, J1P (show j < 1000000 by omega)]
     ·have : (s[at_ + j]).toNat * 2 ^ (8 * j) + 2 ^ (8 * j) ≤ 256 * 2 ^ (8 * j) := by
       rw [← Nat.succ_mul]; exact Nat.mul_le_mul_right _ hu
      have e6 : 2 ^ (8 * (j + 1)) = 256 * 2 ^ (8 * j) := by rw [Nat.mul_add, Nat.pow_add, Nat.mul_comm]
      omega
    ·right
     obtain rfl : j = k := by omega
     have e1 : ¬ ((j : Nat) : Int) < (j : Int) := by omega
     have h32 : (2 : Nat) ^ (8 * j) ≤ 2 ^ 32 := Nat.pow_le_pow_right (by omega) (by omega)
     refine ⟨((x : Int), 0), ?_, x, 0, rfl, by omega⟩
     simp only [J0a, e1, decide_false, Bool.false_eq_true, if_false, J4p, Option.map_some]
     rw [wrap64 (by omega) (by omega)]) (0, 0) ⟨0, 0, rfl, rfl, by omega, by decide⟩
   exact ⟨n, e, hr, hn⟩
theorem bind_none {α β : Type} {o : Option α} {f : α → Option β} (h : Option.bind o f = none) (h2 : ∀ x, o = some x → f x ≠ none) : o = none := by
 cases o with
 | none => rfl
 | some x => exact (h2 x rfl h).elim
theorem Jq8 {s : List UInt8} (hs : s.length = 256) (p0 : T_api_Page) (q : Int × T_api_Page) (hq : ∃ j : Nat, q.1 = j ∧ j ≤ 16) {r : T_api_Page × Bool} (h : J7M s p0 q = some r) :
  ∃ r', Jag s p0 q = some r' ∧ (if r.2 = true then J3T s p0 r.1 = some r' else r' = (⟨0, 0, Vector.replicate 16 ⟨false, []⟩⟩, 4)) := by
 refine Jod (f := fun q : Int × T_api_Page => J0f s p0 q.1 q.2) (g := fun q : Int × T_api_Page => J4M s p0 q.1 q.2) (fun a b => a = b ∧ ∃ j : Nat, a.1 = j ∧ j ≤ 16)
  (fun r r' => if r.2 = true then J3T s p0 r.1 = some r' else r' = (⟨0, 0, Vector.replicate 16 ⟨false, []⟩⟩, 4)) ?_ ?_ ⟨rfl, hq⟩ h
 all_goals
  rintro ⟨j', p⟩ _ r ⟨rfl, j, hj, h16⟩ e
  simp only at hj
  subst hj
 ·by_cases hlt : j < 16
  ·have e1 : ((j : Nat) : Int) < 16 := by omega
   have e2 : IntKind.wrap .i64 (12 + IntKind.wrap .i64 ((j : Int) * 13)) = ((12 + 13 * j : Nat) : Int) := by
    rw [wrap64 (n := (j : Int) * 13) (by omega) (by omega), wrap64 (by omega) (by omega)]; omega
   have hu : (s[12 + 13 * j]'(by omega)).toNat < 256 := UInt8.toNat_lt _
   have e3 : Jy s ((12 + 13 * j : Nat) : Int) 1 = some (((s[12 + 13 * j]'(by omega)).toNat : Nat) : Int) := by
    simp only [Jy, Jcg s (by omega) (show 12 + 13 * j < s.length by omega), Option.bind_some]
   have e4 := J7p (l := s) (k := 12 + 13 * j) (by omega)
   generalize hv : (s[12 + 13 * j]'(by omega)).toNat = v at e3 e4 hu
   have e5 : IntKind.wrap .i64 ((v : Nat) : Int) = ((v : Nat) : Int) := wrap64 (by omega) (by omega)
   have e6 := J1P (show j < 1000000 by omega)
   simp only [J0f, e1, decide_true, if_true, e2, e3, Option.bind_some, e6] at e
   simp only [J4M, e1, decide_true, if_true, e2, e4, Option.bind_some, e5, J6h, e6]
   split at e
   ·rename_i h255
    injection e with e; injection e with e; subst e
    exact ⟨_, by rw [if_pos h255], rfl, j + 1, rfl, by omega⟩
   ·rename_i h255
    rw [if_neg h255]
    split at e
    ·cases e
    ·rename_i h12
     rw [if_neg h12]
     simp only [Option.bind_eq_some_iff, Option.some.injEq, Sum.inl.injEq] at e
     obtain ⟨m, hm, u, hu1, y, hy, rfl⟩ := e
     exact ⟨_, by simp only [hm, hu1, hy, Option.bind_some], rfl, j + 1, rfl, by omega⟩
  ·have e1 : ¬ ((j : Nat) : Int) < 16 := by omega
   simp only [J0f, e1, decide_false, Bool.false_eq_true, if_false, J4l, Option.map_some] at e
   cases e
 ·by_cases hlt : j < 16
  ·have e1 : ((j : Nat) : Int) < 16 := by omega
   have e2 : IntKind.wrap .i64 (12 + IntKind.wrap .i64 ((j : Int) * 13)) = ((12 + 13 * j : Nat) : Int) := by
    rw [wrap64 (n := (j : Int) * 13) (by omega) (by omega), wrap64 (by omega) (by omega)]; omega
   have hu : (s[12 + 13 * j]'(by omega)).toNat < 256 := UInt8.toNat_lt _
   have e3 : Jy s ((12 + 13 * j : Nat) : Int) 1 = some (((s[12 + 13 * j]'(by omega)).toNat : Nat) : Int) := by
    simp only [Jy, Jcg s (by omega) (show 12 + 13 * j < s.length by omega), Option.bind_some]
   have e4 := J7p (l := s) (k := 12 + 13 * j) (by omega)
   generalize hv : (s[12 + 13 * j]'(by omega)).toNat = v at e3 e4 hu
   have e5 : IntKind.wrap .i64 ((v : Nat) : Int) = ((v : Nat) : Int) := wrap64 (by omega) (by omega)
   simp only [J0f, e1, decide_true, if_true, e2, e3, Option.bind_some] at e
   simp only [J4M, e1, decide_true, if_true, e2, e4, Option.bind_some, e5, J6h]
   split at e
   ·cases e
   ·rename_i h255
    rw [if_neg h255]
    split at e
    ·rename_i h12
     injection e with e; injection e with e; subst e
     exact ⟨_, by rw [if_pos h12], by simp⟩
    ·simp only [Option.bind_eq_some_iff, Option.some.injEq] at e
     obtain ⟨_, _, _, _, _, _, e⟩ := e
     cases e
  ·have e1 : ¬ ((j : Nat) : Int) < 16 := by omega
   simp only [J0f, e1, decide_false, Bool.false_eq_true, if_false, J4l, Option.map_some, Option.some.injEq, Sum.inr.injEq] at e
   subst e
   have ht : ∃ r', J3T s p0 p = some r' := by
    unfold J3T
    rw [Jc6]
    obtain ⟨x, hx⟩ := JfX p
    rw [hx, Option.bind_some]
    split
    ·exact ⟨_, rfl⟩
    ·split <;> exact ⟨_, rfl⟩
   obtain ⟨r', hr'⟩ := ht
   exact ⟨r', by simp only [J4M, e1, decide_false, Bool.false_eq_true, if_false, hr', Option.map_some], by simpa using hr'⟩
theorem Jn1 (s : List UInt8) : J8Z s = J0w s := by
 unfold J8Z J0w
 by_cases hs : s.length = 256
 ·have e0 : (((s.length : Nat) : Int) != 256) = false := by rw [hs]; rfl
  have e3 : J28 s none (some 244) = some (s.take 244) := JbC s (b := 244) (by omega)
  have e1 : J28 s none (some 8) = some (s.take 8) := JbC s (b := 8) (by omega)
  have e2 : J28 s (some 248) none = some (s.drop 248) := JfH s (a := 248) (by omega)
  have g1 : J4A s 244 4 = J09 s 244 4 := JhB s 244 (k := 4) (by omega) (by omega)
  have g2 : J4A s 0 8 = J09 s 0 8 := JhB s 0 (k := 8) (by omega) (by omega)
  have g3 : J4A s 8 4 = J09 s 8 4 := JhB s 8 (k := 4) (by omega) (by omega)
  have c1 := JlV (s.take 244) (by simp; omega)
  have c2 := JfF (s.take 244) (by simp; omega)
  have hc := Jgk (s.take 244)
  obtain ⟨n1, x1, k1, l1⟩ := JqF s (by omega) (at_ := 244) (k := 4) (by omega) (by omega) (by omega)
  have k1' : J09 s 244 4 = some ((n1 : Int), x1) := k1
  obtain ⟨n2, k2⟩ := J8x s (by omega) (at_ := 0) (k := 8) (by omega) (by omega) (by omega)
  have k2' : Jy s 0 8 = some n2 := k2
  obtain ⟨x2, k2''⟩ := JgP k2'
  obtain ⟨n3, k3⟩ := J8x s (by omega) (at_ := 8) (k := 4) (by omega) (by omega) (by omega)
  have k3' : Jy s 8 4 = some n3 := k3
  obtain ⟨x3, k3''⟩ := JgP k3'
  have m1 : Jy s 244 4 = some (n1 : Int) := by simp only [Jy, k1', Option.bind_some]
  have w1 : IntKind.wrap .u32 (n1 : Int) = (n1 : Int) := J94 n1 l1
  have w2 : IntKind.wrap .i64 ((crc (s.take 244) : Nat) : Int) = ((crc (s.take 244) : Nat) : Int) := wrap64 (by omega) (by omega)
  obtain ⟨p, hp⟩ := Jk0 s hs
  simp only [e0, Bool.false_eq_true, if_false, JnR, Jb6, Option.bind_some, e1, e2, e3, g1, g2, g3, c1, c2, k1', k2'', k3'', m1, w1, w2, hp]
  split
  ·rfl
  ·split
   ·split
    ·rfl
    ·have hp' : J7M s ⟨0, 0, Vector.replicate 16 ⟨false, []⟩⟩ (0, ⟨n3, n2, Vector.replicate 16 ⟨false, []⟩⟩) = some p := by
      have := hp
      unfold J2D at this
      simpa only [k3', k2', Option.bind_some] using this
     obtain ⟨r', hr1, hr2⟩ := Jq8 hs _ _ ⟨0, rfl, by omega⟩ hp'
     rw [hr1]
     obtain ⟨x, hx⟩ := JfX p.1
     rw [hx, Option.bind_some]
     by_cases hb : p.2 = true
     ·rw [if_pos hb] at hr2 ⊢
      rw [← hr2]
      unfold J3T
      rw [Jc6, hx, Option.bind_some]
     ·rw [if_neg hb] at hr2 ⊢
      rw [hr2]
   ·rfl
 ·have e0 : (((s.length : Nat) : Int) != 256) = true := by simp; omega
  simp only [e0, if_true]
theorem Jci (s : List UInt8) : ∃ r, J0w s = some r := by
 by_cases hs : s.length = 256
 ·obtain ⟨r, h, _⟩ := JmH s hs
  exact ⟨r, h⟩
 ·have e0 : (((s.length : Nat) : Int) != 256) = true := by simp; omega
  unfold J0w
  simp only [e0, if_true]
  exact ⟨_, rfl⟩
theorem Jl5 {s : List UInt8} {r : T_api_Page × Int} (h : J0w s = some r) (h0 : r.2 ≠ 0) : r.1 = ⟨0, 0, Vector.replicate 16 ⟨false, []⟩⟩ := by
 unfold J0w at h
 split at h
 ·injection h with h; subst h; rfl
 ·obtain ⟨_, _, h⟩ := Option.bind_eq_some_iff.1 h
  split at h
  ·injection h with h; subst h; rfl
  ·simp only [Option.bind_eq_some_iff] at h
   obtain ⟨_, _, _, _, h⟩ := h
   split at h
   ·simp only [Option.bind_eq_some_iff] at h
    obtain ⟨_, _, _, _, _, _, h⟩ := h
    split at h
    ·injection h with h; subst h; rfl
    ·simp only [Option.bind_eq_some_iff] at h
     obtain ⟨_, _, _, _, h⟩ := h
     split at h
     ·split at h
      ·injection h with h; subst h; rfl
      ·split at h
       ·injection h with h; subst h; exact (h0 rfl).elim
       ·injection h with h; subst h; rfl
     ·injection h with h; subst h; rfl
   ·injection h with h; subst h; rfl
theorem JjY (s : List UInt8) (k : Int) : J3K s k = J0j s k := by
 unfold J3K J0j J0O
 obtain ⟨r, hr⟩ := Jci s
 simp only [Jn1, hr, Option.bind_some]
 by_cases h1 : k < 0
 ·have h2 : ¬ k ≥ 0 := by omega
  simp only [h1, h2, decide_true, decide_false, if_true, Bool.false_eq_true, if_false, Option.bind_some]
 ·have h2 : k ≥ 0 := by omega
  by_cases h3 : k ≥ 64
  ·have h4 : ¬ k < 64 := by omega
   simp only [h1, h2, h3, h4, decide_true, decide_false, if_true, Bool.false_eq_true, if_false, Option.bind_some]
  ·have h4 : k < 64 := by omega
   simp only [h1, h2, h3, h4, decide_true, decide_false, if_true, Bool.false_eq_true, if_false, Option.bind_some, Jrq]
   split
   ·rfl
   ·by_cases h0 : r.2 = 0
    ·have d1 : (r.2 == 0) = true := by simpa using h0
     have d2 : (r.2 != 0) = false := by simp [h0]
     simp only [d1, d2, if_true, Bool.false_eq_true, if_false]
     rw [h0]
    ·have d1 : (r.2 == 0) = false := by simpa using h0
     have d2 : (r.2 != 0) = true := by simpa using h0
     simp only [d1, d2, if_true, Bool.false_eq_true, if_false]
     rw [← Jl5 hr h0]
theorem JdE (s : List UInt8) (k : Int) : ∃ r, J0j s k = some r := by
 unfold J0j J0O
 obtain ⟨r, hr⟩ := Jci s
 simp only [hr, Option.bind_some]
 by_cases h1 : k ≥ 0
 ·simp only [h1, decide_true, if_true, Option.bind_some]
  split
  ·split
   ·exact ⟨_, rfl⟩
   ·split
    ·exact ⟨_, rfl⟩
    ·split <;> exact ⟨_, rfl⟩
  ·exact ⟨_, rfl⟩
 ·simp only [h1, decide_false, Bool.false_eq_true, if_false, Option.bind_some]
  exact ⟨_, rfl⟩
end Go.Am
end
section
namespace Go.Am
set_option maxRecDepth 16000
theorem JrP {l : List Int} (h : List.length l ≤ maxLen ∧ ∀ x ∈ l, 0 ≤ x ∧ x ≤ 255) {n : Nat} (hn : n ≤ 1000) : ∃ b, J6b l (n : Int) = some b ∧ J1z b := JsV h.2 hn
theorem Jjf {p : T_api_Page} (hp : J3c p) {k : Int} (h0 : 0 ≤ k) (h1 : k < 64) : J0j (JaB p) k = some (if p.ID = k then (p, 0) else (⟨0, 0, Vector.replicate 16 ⟨false, []⟩⟩, 6)) := by
 obtain ⟨s, e1, e2, e3⟩ := Jlg hp
 rw [JdI hp] at e1
 injection e1 with e1; injection e1 with e1 _; subst e1
 have e0 : J0O k = some true := by simp [J0O, h0, h1]
 unfold J0j
 simp only [e0, e3, Option.bind_some, if_true]
 by_cases hk : p.ID = k
 ·have d1 : (p.ID != k) = false := by simp [hk]
  simp only [d1, Bool.false_eq_true, if_false, if_pos hk]
  rfl
 ·have d1 : (p.ID != k) = true := by simpa using hk
  simp only [d1, if_true, if_neg hk]
  rfl
end Go.Am
end
section
namespace Go.Am
set_option maxRecDepth 16000
def hb (c : Nat) : Nat := if c < 2147483648 then 2 * c else 2 * (c ^^^ P32) + 1
def hN : Nat → Nat → Nat
 | 0, c => c
 | j + 1, c => hN j (hb c)
end Go.Am
end
section
namespace Go.Am
set_option maxRecDepth 16000
theorem Jnp {α ρ : Type} {f : Int → Option (Int ⊕ ρ)} {l : List α} (p : α → Bool) (hit : Nat → ρ) (out : ρ) (hl : l.length < 1000000)
  (h1 : ∀ (k : Nat) (h : k < l.length), f (k : Int) = some (if p l[k] = true then .inr (hit k) else .inl ((k + 1 : Nat) : Int))) (h2 : f (l.length : Int) = some (.inr out)) :
  Ju f 0 = some (match l.findIdx? p with
   | some k => hit k
   | none => out) := by
 have key : ∀ (n k : Nat), k + n = l.length → Ju f (k : Int) = some (match (l.drop k).findIdx? p with
   | some j => hit (k + j)
   | none => out) := by
  intro n
  induction n with
  | zero =>
   intro k hk
   obtain rfl : k = l.length := by omega
   rw [J22 h2]
   simp
  | succ n ih =>
   intro k hk
   have hlt : k < l.length := by omega
   have e := h1 k hlt
   rw [List.drop_eq_getElem_cons hlt, List.findIdx?_cons]
   by_cases hp : p l[k] = true
   ·rw [if_pos hp] at e
    rw [J22 e, if_pos hp]
    rfl
   ·rw [if_neg hp] at e
    rw [J2J e, ih (k + 1) (by omega), if_neg hp]
    cases (l.drop (k + 1)).findIdx? p with
    | none => rfl
    | some j => simp only [Option.map_some]; congr 2; omega
 have := key l.length 0 (by omega)
 simpa using this
theorem JpP {α ρ : Type} {f : Int → Option (Int ⊕ ρ)} {l : List α} (q : α → Bool) (bad out : ρ) (hl : l.length < 1000000)
  (h1 : ∀ (k : Nat) (h : k < l.length), f (k : Int) = some (if q l[k] = true then .inl ((k + 1 : Nat) : Int) else .inr bad)) (h2 : f (l.length : Int) = some (.inr out)) :
  Ju f 0 = some (if l.all q = true then out else bad) := by
 have := Jnp (f := f) (l := l) (fun x => !q x) (fun _ => bad) out hl (fun k h => by
  rw [h1 k h]
  cases q l[k] <;> rfl) h2
 rw [this]
 cases h : l.findIdx? (fun x => !q x) with
 | none =>
  rw [List.findIdx?_eq_none_iff] at h
  have : l.all q = true := List.all_eq_true.2 fun x hx => by simpa using h x hx
  rw [this]; rfl
 | some k =>
  obtain ⟨hk, h3, _⟩ := List.findIdx?_eq_some_iff_getElem.1 h
  have : l.all q ≠ true := fun h4 => by
   have := List.all_eq_true.1 h4 _ (List.getElem_mem hk)
   rw [this] at h3; cases h3
  rw [if_neg this]
end Go.Am
end
section
namespace Go.Am
set_option maxRecDepth 16000
def Tot {ρ : Type} (o : Option ρ) (Q : ρ → Prop) : Prop := ∃ r, o = some r ∧ Q r
theorem Tot.bind {α ρ : Type} {o : Option α} {f : α → Option ρ} {Q : α → Prop} {R : ρ → Prop} (h : Tot o Q) (h2 : ∀ r, Q r → Tot (f r) R) : Tot (o.bind f) R := by
 obtain ⟨r, rfl, hq⟩ := h
 exact h2 r hq
theorem Tot.some {ρ : Type} {r : ρ} {Q : ρ → Prop} (h : Q r) : Tot (some r) Q := ⟨r, rfl, h⟩
theorem Tot.eq {α ρ : Type} {o : Option α} {f : α → Option ρ} {v : α} {R : ρ → Prop} (h : o = Option.some v) (h2 : Tot (f v) R) : Tot (o.bind f) R := by
 subst h; exact h2
theorem Tot.ite {ρ : Type} {c : Bool} {a b : Option ρ} {Q : ρ → Prop} (h1 : c = true → Tot a Q) (h2 : c = false → Tot b Q) : Tot (if c = true then a else b) Q := by
 cases c with
 | true => exact h1 rfl
 | false => exact h2 rfl
theorem Tot.mono {ρ : Type} {o : Option ρ} {Q R : ρ → Prop} (h : Tot o Q) (h2 : ∀ r, Q r → R r) : Tot o R := by
 obtain ⟨r, e, hq⟩ := h
 exact ⟨r, e, h2 r hq⟩
theorem Tot.map {α ρ : Type} {o : Option α} {f : α → ρ} {Q : α → Prop} {R : ρ → Prop} (h : Tot o Q) (h2 : ∀ r, Q r → R (f r)) : Tot (Option.map f o) R := by
 obtain ⟨r, rfl, hq⟩ := h
 exact ⟨f r, rfl, h2 r hq⟩
abbrev Drw {α : Type} (o : Option (α × T_pagemenddraw_Codes)) (Q : α → Prop) : Prop := Tot o fun r => J1z r.2 ∧ Q r.1
section
variable {b : T_pagemenddraw_Codes} (hb : J1z b)
include hb
theorem JoA {n : Int} (h1 : 1 ≤ n) (h2 : n ≤ 256) : Drw (J06 b n) fun r => 0 ≤ r ∧ r < n := by
 obtain ⟨r, b', e, h3, h4, h5⟩ := J63 hb h1 h2
 exact ⟨_, e, h3, h4, h5⟩
end
end Go.Am
end
section
namespace Go.Am
set_option maxRecDepth 16000
set_option linter.unusedSimpArgs false
set_option linter.unusedVariables false
noncomputable def idn (s : List UInt8) (k : Int) : T_api_Page × Int := Classical.choose (JdE s k)
theorem JbF (s : List UInt8) (k : Int) : J0j s k = some (idn s k) := Classical.choose_spec (JdE s k)
theorem Jma (s : List UInt8) (k : Int) : J3K s k = some (idn s k) := by rw [JjY, JbF]
theorem Jqd (k : Int) : J0O k = some (decide (0 ≤ k) && decide (k < 64)) := by
 unfold J0O
 by_cases h : k ≥ 0 <;> by_cases h2 : k < 64 <;> simp [h, h2]
 all_goals omega
theorem Jiq {s : List UInt8} {k : Int} (h : (idn s k).2 = 0) : 0 ≤ k ∧ k < 64 ∧ s.length = 256 := by
 have e := JbF s k
 unfold J0j at e
 rw [Jqd, Option.bind_some] at e
 by_cases hk : 0 ≤ k ∧ k < 64
 ·refine ⟨hk.1, hk.2, ?_⟩
  obtain ⟨r, hr⟩ := Jci s
  rw [if_pos (by simp [hk]), hr, Option.bind_some] at e
  by_cases hl : s.length = 256
  ·exact hl
  ·unfold J0w at hr
   rw [if_pos (by simp; omega)] at hr
   injection hr with hr
   subst hr
   simp at e
   rw [← e] at h
   cases h
 ·rw [if_neg (by simp; omega)] at e
  injection e with e
  rw [← e] at h
  cases h
noncomputable def J7s (n : Int) (c : T_api_Copy) : Bool := decide (c.Page < n) && ((idn c.Data c.Page).2 == 0 && (idn c.Data c.Page).1.LSN == c.LSN)
def JdJ (l : List T_api_Copy) (k : Nat) : Bool := k == 0 || match l[k - 1]?, l[k]? with
 | some a, some b => decide (a.Page < b.Page)
 | _, _ => true
noncomputable def J7n (n : Int) (l : List T_api_Copy) : Bool := (List.range l.length).all fun k => JdJ l k && match l[k]? with
 | some c => J7s n c
 | none => true
noncomputable def J8r (x : T_api_Image) : Bool := decide (1 ≤ x.ID) && (decide (x.ID ≤ 1073741824) && (decide (1 ≤ x.Pages) && (decide (x.Pages ≤ 64) && J7n x.Pages x.Copies)))
theorem Jgp {ρ : Type} {f : Int → Option (Int ⊕ ρ)} {n : Nat} (q : Nat → Bool) (bad out : ρ) (hl : n < 1000000)
  (h1 : ∀ (k : Nat), k < n → f (k : Int) = some (if q k = true then .inl ((k + 1 : Nat) : Int) else .inr bad)) (h2 : f (n : Int) = some (.inr out)) :
  Ju f 0 = some (if (List.range n).all q = true then out else bad) := by
 have := JpP (f := f) (l := List.range n) q bad out (by simpa using hl) (fun k h => by
  simp only [List.length_range] at h
  rw [h1 k h, List.getElem_range]) (by simpa using h2)
 exact this
theorem JeV (a n : Int) (l : List T_api_Copy) (k : Nat) (hk : k < l.length) (hl : l.length < 1000000) :
  J2p (l.length : Int) ⟨a, n, l⟩ (k : Int) = some (if (JdJ l k && match l[k]? with
   | some c => J7s n c
   | none => true) = true then .inl ((k + 1 : Nat) : Int) else .inr false) := by
 have e1 : idx l (k : Int) = some l[k] := by rw [J57, List.getElem?_eq_getElem hk]
 unfold J2p
 rw [if_pos (by simp; omega)]
 simp only [e1, Option.bind_some, JbF, List.getElem?_eq_getElem hk, J7s, JdJ]
 have e3 : IntKind.wrap .i64 ((k : Int) + 1) = ((k + 1 : Nat) : Int) := by rw [wrap64 (by omega) (by omega)]; omega
 rw [e3]
 by_cases hp : l[k].Page ≥ n
 ·simp [hp, show ¬ l[k].Page < n by omega]
 ·by_cases h0 : k = 0
  ·subst h0
   simp only [hp, show l[0].Page < n by omega, decide_true, decide_false, Bool.false_eq_true, if_false, Bool.true_and]
   simp only [Int.natCast_zero, gt_iff_lt, Int.lt_irrefl, decide_false, Bool.false_eq_true, if_false, beq_self_eq_true, Bool.true_or, Bool.true_and]
   cases h5 : ((idn l[0].Data l[0].Page).2 == 0) <;> cases h6 : ((idn l[0].Data l[0].Page).1.LSN == l[0].LSN) <;> simp [bne, h5, h6]
  ·have e2 : idx l (IntKind.wrap .i64 ((k : Int) - 1)) = some l[k - 1] := by
    rw [wrap64 (by omega) (by omega), show (k : Int) - 1 = ((k - 1 : Nat) : Int) by omega, J57, List.getElem?_eq_getElem (by omega)]
   simp only [e2, Option.bind_some, List.getElem?_eq_getElem (show k - 1 < l.length by omega)]
   simp only [hp, show l[k].Page < n by omega, decide_true, decide_false, Bool.false_eq_true, if_false, Bool.true_and, show (k : Int) > 0 by omega, if_true, show (k == 0) = false by simpa using h0, Bool.false_or]
   by_cases h7 : l[k - 1].Page ≥ l[k].Page
   ·simp [h7, show ¬ l[k - 1].Page < l[k].Page by omega]
   ·simp only [h7, show l[k - 1].Page < l[k].Page by omega, decide_true, decide_false, Bool.false_eq_true, if_false, Bool.true_and]
    cases h5 : ((idn l[k].Data l[k].Page).2 == 0) <;> cases h6 : ((idn l[k].Data l[k].Page).1.LSN == l[k].LSN) <;> simp [bne, h5, h6]
theorem J72 {n : Int} {c : T_api_Copy} (h : J7s n c = true) : 0 ≤ c.Page ∧ c.Page < 64 ∧ c.Page < n ∧ (idn c.Data c.Page).2 = 0 ∧ (idn c.Data c.Page).1.LSN = c.LSN := by
 simp only [J7s, Bool.and_eq_true, decide_eq_true_eq, beq_iff_eq] at h
 have := Jiq h.2.1
 exact ⟨this.1, this.2.1, h.1, h.2.1, h.2.2⟩
theorem Jkl (a n : Int) (l : List T_api_Copy) (k : Nat) (hk : k < l.length) (hl : l.length < 1000000) :
  J5B ⟨a, n, l⟩ (k : Int) = some (if (JdJ l k && match l[k]? with
   | some c => J7s n c
   | none => true) = true then .inl ((k + 1 : Nat) : Int) else .inr false) := by
 have e1 : idx l (k : Int) = some l[k] := by rw [J57, List.getElem?_eq_getElem hk]
 by_cases hneg : l[k].Page < 0
 ·have hf : J7s n l[k] = false := by
   cases hc : J7s n l[k] with
   | false => rfl
   | true => have := J72 hc; omega
  unfold J5B
  rw [if_pos (by simp; omega)]
  simp only [e1, Option.bind_some, List.getElem?_eq_getElem hk, hf, hneg, decide_true, if_true, Bool.and_false, Bool.false_eq_true, if_false]
 ·rw [← JeV a n l k hk hl]
  unfold J5B J2p
  simp only [e1, Option.bind_some, hneg, decide_false, Bool.false_eq_true, if_false, Jma, JbF]
  rfl
theorem Jit (b : Bool) : (if b = true then true else false) = b := by cases b <;> rfl
theorem Jff (a n : Int) (l : List T_api_Copy) (hl : l.length < 1000000) : J6U (l.length : Int) ⟨a, n, l⟩ 0 = some (J7n n l) := by
 unfold J6U
 rw [Jgp (n := l.length) (fun k => JdJ l k && match l[k]? with
   | some c => J7s n c
   | none => true) false true hl (fun k h => JeV a n l k h hl) (by
  unfold J2p
  rw [if_neg (by simp)]
  rfl)]
 rw [Jit]
 rfl
theorem Jh5 (a n : Int) (l : List T_api_Copy) (hl : l.length < 1000000) : J8w ⟨a, n, l⟩ 0 = some (J7n n l) := by
 unfold J8w
 rw [Jgp (n := l.length) (fun k => JdJ l k && match l[k]? with
   | some c => J7s n c
   | none => true) false true hl (fun k h => Jkl a n l k h hl) (by
  unfold J5B
  rw [if_neg (by simp)]
  rfl)]
 rw [Jit]
 rfl
theorem J9a {n : Int} {l : List T_api_Copy} : J7n n l = true ↔ (∀ c ∈ l, J7s n c = true) ∧ ∀ (k : Nat) (h : k + 1 < l.length), l[k].Page < l[k + 1].Page := by
 unfold J7n
 simp only [List.all_eq_true, List.mem_range, Bool.and_eq_true]
 constructor
 ·intro h
  refine ⟨fun c hc => ?_, fun k hk => ?_⟩
  ·obtain ⟨k, hk⟩ := List.getElem?_of_mem hc
   have hlt : k < l.length := by
    rcases Nat.lt_or_ge k l.length with h' | h'
    ·exact h'
    ·simp [List.getElem?_eq_none h'] at hk
   have := (h k hlt).2
   rw [hk] at this
   exact this
  ·have := (h (k + 1) hk).1
   simp only [JdJ, Nat.add_sub_cancel, List.getElem?_eq_getElem hk, List.getElem?_eq_getElem (show k < l.length by omega)] at this
   simpa using this
 ·rintro ⟨h1, h2⟩ k hk
  refine ⟨?_, ?_⟩
  ·unfold JdJ
   by_cases h0 : k = 0
   ·simp [h0]
   ·obtain ⟨j, rfl⟩ : ∃ j, k = j + 1 := ⟨k - 1, by omega⟩
    simp only [Nat.add_sub_cancel, List.getElem?_eq_getElem hk, List.getElem?_eq_getElem (show j < l.length by omega)]
    simpa using h2 j hk
  ·rw [List.getElem?_eq_getElem hk]
   exact h1 _ (List.getElem_mem hk)
theorem JnE {n : Int} {l : List T_api_Copy} (h : J7n n l = true) : ∀ (k : Nat) (hk : k < l.length), (k : Int) ≤ l[k].Page := by
 obtain ⟨h1, h2⟩ := J9a.1 h
 intro k
 induction k with
 | zero => intro hk; have := (J72 (h1 _ (List.getElem_mem hk))).1; omega
 | succ k ih => intro hk; have := ih (by omega); have := h2 k hk; omega
theorem Jg3 {n : Int} {l : List T_api_Copy} (h : J7n n l = true) (hn : 0 ≤ n) : (l.length : Int) ≤ n := by
 by_cases h0 : l.length = 0
 ·omega
 ·have h1 := JnE h (l.length - 1) (by omega)
  have h2 := (J72 ((J9a.1 h).1 _ (List.getElem_mem (show l.length - 1 < l.length by omega)))).2.2.1
  omega
theorem J7J (x : T_api_Image) (hl : x.Copies.length < 1000000) : J0N x = some (J8r x) := by
 obtain ⟨a, n, l⟩ := x
 unfold J0N J8r
 dsimp only at hl ⊢
 by_cases h1 : a < 1
 ·simp [h1, show ¬ 1 ≤ a by omega]
 by_cases h2 : a > 1073741824
 ·simp [h1, h2, show ¬ a ≤ 1073741824 by omega]
 by_cases h3 : n < 1
 ·simp [h1, h2, h3, show ¬ 1 ≤ n by omega]
 by_cases h4 : n > 64
 ·simp [h1, h2, h3, h4, show ¬ n ≤ 64 by omega]
 by_cases h5 : (l.length : Int) > n
 ·have : J7n n l = false := by
   cases hc : J7n n l with
   | false => rfl
   | true => have := Jg3 hc (by omega); omega
  simp [h1, h2, h3, h4, h5, this]
 ·simp only [h1, h2, h3, h4, h5, decide_false, Bool.false_eq_true, if_false, Jff a n l hl]
  simp [show 1 ≤ a by omega, show a ≤ 1073741824 by omega, show 1 ≤ n by omega, show n ≤ 64 by omega]
theorem JeP (x : T_api_Image) (hl : x.Copies.length < 1000000) : J7K x = some (J8r x) := by
 obtain ⟨a, n, l⟩ := x
 unfold J7K J8r
 dsimp only at hl ⊢
 by_cases h1 : a < 1
 ·simp [h1, show ¬ 1 ≤ a by omega]
 by_cases h2 : a > 1073741824
 ·simp [h1, h2, show ¬ a ≤ 1073741824 by omega]
 by_cases h3 : n < 1
 ·simp [h1, h2, h3, show ¬ 1 ≤ n by omega]
 by_cases h4 : n > 64
 ·simp [h1, h2, h3, h4, show ¬ n ≤ 64 by omega]
 ·simp only [h1, h2, h3, h4, decide_false, Bool.false_eq_true, if_false, Jh5 a n l hl]
  simp [show 1 ≤ a by omega, show a ≤ 1073741824 by omega, show 1 ≤ n by omega, show n ≤ 64 by omega]
structure J3E (x : T_api_Image) : Prop where
 id1 : 1 ≤ x.ID
 id2 : x.ID ≤ 1073741824
 p1 : 1 ≤ x.Pages
 p2 : x.Pages ≤ 64
 copies : ∀ c ∈ x.Copies, J7s x.Pages c = true
 asc : ∀ (k : Nat) (h : k + 1 < x.Copies.length), x.Copies[k].Page < x.Copies[k + 1].Page
theorem J5C {x : T_api_Image} : J8r x = true ↔ J3E x := by
 unfold J8r
 simp only [Bool.and_eq_true, decide_eq_true_eq, J9a]
 exact ⟨fun ⟨a, b, c, d, e, f⟩ => ⟨a, b, c, d, e, f⟩, fun h => ⟨h.1, h.2, h.3, h.4, h.5, h.6⟩⟩
theorem J3E.len {x : T_api_Image} (h : J3E x) : (x.Copies.length : Int) ≤ x.Pages := Jg3 (J9a.2 ⟨h.copies, h.asc⟩) (by have := h.p1; omega)
end Go.Am
end
section
namespace Go.Am
set_option maxRecDepth 16000
set_option linter.unusedSimpArgs false
set_option linter.unusedVariables false
theorem Jti (x : Nat) : J6P .u64 (x : Int) 1 = some ((x / 2 : Nat) : Int) := by
 show some ((x : Int).fdiv 2) = _
 rw [Int.fdiv_eq_ediv_of_nonneg _ (by omega)]; simp
def Asc (l : List T_api_Copy) : Prop := ∀ (i j : Nat) (h : j < l.length) (hij : i < j), l[i].Page < l[j].Page
theorem Jsr {l : List T_api_Copy} (h : ∀ (k : Nat) (h : k + 1 < l.length), l[k].Page < l[k + 1].Page) : Asc l := by
 intro i j hj hij
 induction j with
 | zero => omega
 | succ j ih =>
  rcases Nat.lt_or_ge i j with h1 | h1
  ·have := ih (by omega) h1
   have := h j hj
   omega
  ·obtain rfl : i = j := by omega
   exact h i hj
theorem J3E.ord {x : T_api_Image} (h : J3E x) : Asc x.Copies := Jsr h.asc
theorem J3E.page {x : T_api_Image} (h : J3E x) {k : Nat} (hk : k < x.Copies.length) : 0 ≤ x.Copies[k].Page ∧ x.Copies[k].Page < 64 := by
 have := J72 (h.copies _ (List.getElem_mem hk)); omega
def Cut (l : List T_api_Copy) (id : Int) (k : Nat) : Prop := k ≤ l.length ∧ (∀ (j : Nat) (h : j < l.length), j < k → l[j].Page < id) ∧ ∀ (j : Nat) (h : j < l.length), k ≤ j → id ≤ l[j].Page
def J40 (l : List T_api_Copy) (id : Int) (k : Nat) : Bool := match l[k]? with
 | some c => c.Page == id
 | none => false
theorem Jif (c : T_api_Copy) {id : Int} (h : 0 ≤ c.Page ∧ c.Page < 64) (h0 : 0 ≤ id) (h1 : id < 64) : J27 c id = some (c.Page - id) := by
 unfold J27; rw [wrap64 (by omega) (by omega)]
theorem Jdj {x : T_api_Image} (hx : J3E x) {id : Int} (h0 : 0 ≤ id) (h1 : id < 64) : ∃ k, Cut x.Copies id k ∧ J3z x id = some ((k : Int), J40 x.Copies id k) := by
 obtain ⟨a, n, l⟩ := x
 have hl : l.length ≤ 64 := by have := hx.len; have := hx.p2; simp at *; omega
 have ho : Asc l := hx.ord
 have hp : ∀ (k : Nat) (hk : k < l.length), 0 ≤ l[k].Page ∧ l[k].Page < 64 := fun k hk => hx.page hk
 have key : ∃ r, JQ l id (l.length : Int) (0, (l.length : Int)) = some r ∧ ∃ k, Cut l id k ∧ r = ((k : Int), J40 l id k) := by
  unfold JQ
  refine J0L (fun s : Int × Int => ∃ i j : Nat, s = ((i : Int), (j : Int)) ∧ i ≤ j ∧ j ≤ l.length ∧ (∀ (t : Nat) (h : t < l.length), t < i → l[t].Page < id) ∧ ∀ (t : Nat) (h : t < l.length), j ≤ t → id ≤ l[t].Page)
   (fun s => (s.2 - s.1).toNat) _ ?_ _ ⟨0, l.length, rfl, by omega, by omega, fun t _ ht => by omega, fun t h ht => by omega⟩
  rintro s ⟨i, j, rfl, hij, hj, hA, hB⟩
  dsimp only
  unfold JD
  by_cases hlt : i < j
  ·left
   have e1 : J6P .u64 (IntKind.wrap .u64 (IntKind.wrap .i64 ((i : Int) + (j : Int)))) 1 = some (((i + j) / 2 : Nat) : Int) := by
    rw [wrap64 (by omega) (by omega), J6H (by omega) (by omega), show (i : Int) + (j : Int) = ((i + j : Nat) : Int) by omega, Jti]
   have hm : (i + j) / 2 < l.length := by omega
   have e2 : IntKind.wrap .i64 (((i + j) / 2 : Nat) : Int) = (((i + j) / 2 : Nat) : Int) := wrap64 (by omega) (by omega)
   rw [if_pos (by simp; omega), e1, Option.bind_some, e2, J57, List.getElem?_eq_getElem hm, Option.bind_some, Jif _ (hp _ hm) h0 h1, Option.bind_some]
   by_cases hc : l[(i + j) / 2].Page < id
   ·rw [if_pos (by simp; omega)]
    refine ⟨_, rfl, ⟨(i + j) / 2 + 1, j, ?_, by omega, hj, fun t ht h2 => ?_, hB⟩, ?_⟩
    ·rw [wrap64 (by omega) (by omega)]; congr 1
    ·rcases Nat.lt_or_ge t ((i + j) / 2) with h3 | h3
     ·have := ho t _ hm h3; omega
     ·obtain rfl : t = (i + j) / 2 := by omega
      exact hc
    ·dsimp only; rw [wrap64 (by omega) (by omega)]; omega
   ·rw [if_neg (by simp; omega)]
    refine ⟨_, rfl, ⟨i, (i + j) / 2, rfl, by omega, by omega, hA, fun t ht h2 => ?_⟩, ?_⟩
    ·rcases Nat.eq_or_lt_of_le h2 with h3 | h3
     ·subst h3; omega
     ·have := ho _ t ht h3; omega
    ·dsimp only; omega
  ·right
   obtain rfl : i = j := by omega
   rw [if_neg (by simp)]
   refine ⟨((i : Int), J40 l id i), ?_, i, ⟨hj, hA, hB⟩, rfl⟩
   unfold JR
   by_cases hi : i < l.length
   ·rw [if_pos (by simp; omega), J57, List.getElem?_eq_getElem hi, Option.bind_some, Jif _ (hp _ hi) h0 h1, Option.bind_some]
    simp only [J40, List.getElem?_eq_getElem hi, Option.map_some]
    congr 3
    rw [Bool.eq_iff_iff]; simp; omega
   ·rw [if_neg (by simp; omega)]
    simp [J40, List.getElem?_eq_none (show l.length ≤ i by omega)]
 obtain ⟨r, hr, k, hk, rfl⟩ := key
 refine ⟨k, hk, ?_⟩
 unfold J3z JH
 dsimp only
 rw [hr]
 rfl
def J9s (l : List T_api_Copy) (c : T_api_Copy) (k : Nat) : List T_api_Copy := l.take k ++ c :: l.drop (if J40 l c.Page k then k + 1 else k)
theorem Jkm {l : List T_api_Copy} (h : l.length ≤ 1000) : J13 l = some l := by
 unfold J13; rw [if_pos (by omega)]
theorem Jnt {x : T_api_Image} (hx : J3E x) {id : Int} {s : List UInt8} (h0 : 0 ≤ id) (h1 : id < x.Pages) (hs : (idn s id).2 = 0) {k : Nat} (hk : Cut x.Copies id k) :
  J4C x id s = some (⟨x.ID, x.Pages, J9s x.Copies ⟨id, (idn s id).1.LSN, s⟩ k⟩, 0) := by
 have hl : x.Copies.length ≤ 64 := by have := hx.len; have := hx.p2; omega
 have h64 : id < 64 := by have := hx.p2; omega
 unfold J4C
 rw [J7J x (by omega), J5C.2 hx, Option.bind_some, if_pos rfl, if_neg (by simp; omega), if_neg (by simp; omega), JbF, Option.bind_some, if_neg (by simp [hs])]
 obtain ⟨k', hk', e⟩ := Jdj hx h0 h64
 have hkk : k' = k := by
  rcases Nat.lt_trichotomy k' k with h | h | h
  ·have a := hk.2.1 k' (by have := hk.1; omega) h
   have b := hk'.2.2 k' (by have := hk.1; omega) (Nat.le_refl _)
   omega
  ·exact h
  ·have a := hk'.2.1 k (by have := hk'.1; omega) h
   have b := hk.2.2 k (by have := hk'.1; omega) (Nat.le_refl _)
   omega
 subst hkk
 rw [e, Option.bind_some, Jkm (by omega), Option.bind_some]
 dsimp only
 unfold J9s
 by_cases ht : J40 x.Copies id k' = true
 ·have hlt : k' < x.Copies.length := by
   rcases Nat.lt_or_ge k' x.Copies.length with h | h
   ·exact h
   ·simp [J40, List.getElem?_eq_none h] at ht
  rw [if_pos ht]
  dsimp only
  rw [if_pos ht]
  unfold J4X
  rw [J57, List.getElem?_eq_getElem hlt, Option.bind_some, Option.bind_some, Int.toNat_natCast, List.set_eq_take_append_cons_drop, if_pos hlt]
 ·rw [if_neg ht]
  dsimp only
  rw [if_neg ht]
  have hk2 := hk'.1
  have e2 : J0X x.Copies (k' : Int) [⟨0, 0, []⟩] = some (x.Copies.take k' ++ ⟨0, 0, []⟩ :: x.Copies.drop k') := by
   unfold J0X Jdf
   dsimp only
   rw [if_pos ⟨by omega, by omega, by simp [J4S]; omega⟩, Int.toNat_natCast]
  have e3 : (x.Copies.take k').length = k' := by simp; omega
  rw [e2, Option.bind_some]
  unfold J4X
  have e4 : idx (x.Copies.take k' ++ (⟨0, 0, []⟩ : T_api_Copy) :: x.Copies.drop k') (k' : Int) = some ⟨0, 0, []⟩ := by
   rw [J57, List.getElem?_append_right (by omega), e3, Nat.sub_self]; rfl
  rw [e4, Option.bind_some, Option.bind_some, Int.toNat_natCast, List.set_append_right _ _ (by omega), e3, Nat.sub_self]
  rfl
end Go.Am
end
section
namespace Go.Am
set_option maxRecDepth 16000
set_option linter.unusedSimpArgs false
set_option linter.unusedVariables false
theorem J6a {l : List T_api_Copy} {id : Int} {k : Nat} : J40 l id k = true ↔ ∃ h : k < l.length, l[k].Page = id := by
 unfold J40
 rcases Nat.lt_or_ge k l.length with h | h
 ·simp [List.getElem?_eq_getElem h, h]
 ·simp [List.getElem?_eq_none h]; omega
theorem Jak {l : List T_api_Copy} {c : T_api_Copy} (h : l.length ≤ 1000) : Jbc 32 l [c] = some (l ++ [c]) := by
 have e : J4S (l.length + [c].length) 32 = true := by
  simp only [J4S, List.length_cons, List.length_nil]
  simp; omega
 unfold Jbc
 rw [if_pos e]
theorem JhD {α : Type} {l : List α} {k' j : Nat} (h : j < l.length) (h2 : k' ≤ j) : (l.drop k').take (j - k') ++ [l[j]] = (l.drop k').take (j + 1 - k') := by
 rw [show j + 1 - k' = (j - k') + 1 by omega, List.take_add_one, List.getElem?_drop, show k' + (j - k') = j by omega, List.getElem?_eq_getElem h]
 rfl
theorem JrX {x : T_api_Image} (hx : J3E x) {id : Int} {s : List UInt8} (h0 : 0 ≤ id) (h1 : id < x.Pages) (hs : (idn s id).2 = 0) {k : Nat} (hk : Cut x.Copies id k) :
  JaX x id s = some (⟨x.ID, x.Pages, J9s x.Copies ⟨id, (idn s id).1.LSN, s⟩ k⟩, 0) := by
 have hl : x.Copies.length ≤ 64 := by have := hx.len; have := hx.p2; omega
 have h64 : id < 64 := by have := hx.p2; omega
 have ho := hx.ord
 unfold JaX
 rw [JeP x (by omega), J5C.2 hx, Option.bind_some, if_pos rfl, if_neg (by simp; omega), if_neg (by simp; omega), Jma, Option.bind_some, if_neg (by simp [hs])]
 generalize hc : (⟨id, (idn s id).1.LSN, s⟩ : T_api_Copy) = c
 have hcp : c.Page = id := by rw [← hc]
 obtain ⟨a, n, l⟩ := x
 dsimp only at *
 obtain ⟨k', hk'⟩ : ∃ k', k' = if J40 l id k then k + 1 else k := ⟨_, rfl⟩
 have hkk : k ≤ k' ∧ k' ≤ k + 1 := by rw [hk']; split <;> omega
 have hput : J9s l c k = l.take k ++ c :: l.drop k' := by unfold J9s; rw [hcp, hk']
 obtain ⟨r, hr, rfl⟩ : ∃ r, J9w id ⟨a, n, l⟩ [] 0 0 c a n (false, 0, []) = some r ∧ r = (⟨a, n, J9s l c k⟩, 0) := by
  unfold J9w
  refine J0L (fun s : Bool × Int × List T_api_Copy => ∃ j : Nat, j ≤ l.length ∧ s = (decide (k < j), (j : Int), if k < j then l.take k ++ c :: (l.drop k').take (j - k') else l.take j)) (fun s => (l.length - s.2.1).toNat) _ ?_ _ ⟨0, by omega, by simp⟩
  rintro _ ⟨j, hj, rfl⟩
  dsimp only
  unfold JcG
  dsimp only
  rcases Nat.lt_or_ge j l.length with hlt | hge
  ·left
   have e3 : IntKind.wrap .i64 ((j : Int) + 1) = ((j + 1 : Nat) : Int) := by rw [wrap64 (by omega) (by omega)]; omega
   have ei : idx l (j : Int) = some l[j] := by rw [J57, List.getElem?_eq_getElem hlt]
   rw [if_pos (by simp; omega)]
   rcases Nat.lt_trichotomy j k with h | h | h
   ·
    have hpg := hk.2.1 j hlt h
    refine ⟨(decide (k < j + 1), ((j + 1 : Nat) : Int), if k < j + 1 then l.take k ++ c :: (l.drop k').take (j + 1 - k') else l.take (j + 1)), ?_, ⟨j + 1, by omega, rfl⟩, by dsimp only; omega⟩
    rw [show decide (k < j) = false by simp; omega, if_neg (show ¬ k < j by omega), show decide (k < j + 1) = false by simp; omega, if_neg (show ¬ k < j + 1 by omega)]
    simp only [Bool.false_eq_true, if_false, ei, Option.bind_some]
    rw [if_neg (by simp; omega)]
    unfold J4W
    simp only [ei, Option.bind_some]
    rw [if_pos (by simp; omega), Jak (by simp; omega), Option.bind_some]
    unfold J5d
    rw [e3, List.take_add_one, List.getElem?_eq_getElem hlt]
    rfl
   ·
    subst h
    have hpg := hk.2.2 j hlt (Nat.le_refl _)
    refine ⟨(decide (j < j + 1), ((j + 1 : Nat) : Int), if j < j + 1 then l.take j ++ c :: (l.drop k').take (j + 1 - k') else l.take (j + 1)), ?_, ⟨j + 1, by omega, rfl⟩, by dsimp only; omega⟩
    rw [show decide (j < j) = false by simp, if_neg (show ¬ j < j by omega), show decide (j < j + 1) = true by simp, if_pos (show j < j + 1 by omega)]
    simp only [Bool.false_eq_true, if_false, ei, Option.bind_some]
    rw [if_pos (by simp; omega), Jak (by simp; omega), Option.bind_some]
    unfold J4W
    simp only [ei, Option.bind_some]
    by_cases hp : l[j].Page = id
    ·have : k' = j + 1 := by rw [hk', if_pos (J6a.2 ⟨hlt, hp⟩)]
     subst this
     rw [if_neg (by simp [hp])]
     unfold J5d
     rw [e3, Nat.sub_self]
     rfl
    ·have : k' = j := by rw [hk', if_neg (fun h => hp (J6a.1 h).2)]
     subst this
     rw [if_pos (by simp [hp]), Jak (by simp; omega), Option.bind_some]
     unfold J5d
     rw [e3, show k' + 1 - k' = 0 + 1 by omega, List.take_add_one, List.getElem?_drop, show k' + 0 = k' from rfl, List.getElem?_eq_getElem hlt]
     simp
   ·
    have hpg := hk.2.2 k (by omega) (Nat.le_refl _)
    have hpj := ho k j hlt h
    refine ⟨(decide (k < j + 1), ((j + 1 : Nat) : Int), if k < j + 1 then l.take k ++ c :: (l.drop k').take (j + 1 - k') else l.take (j + 1)), ?_, ⟨j + 1, by omega, rfl⟩, by dsimp only; omega⟩
    rw [show decide (k < j) = true by simp; omega, if_pos h, show decide (k < j + 1) = true by simp; omega, if_pos (show k < j + 1 by omega)]
    simp only [if_true]
    unfold J4W
    simp only [ei, Option.bind_some]
    rw [if_pos (by simp; omega), Jak (by simp; omega), Option.bind_some]
    unfold J5d
    rw [e3, List.append_assoc, List.cons_append, JhD hlt (by omega)]
  ·right
   obtain rfl : j = l.length := by omega
   rw [if_neg (by simp), hput]
   unfold Jcm
   by_cases hkl : k < l.length
   ·rw [show decide (k < l.length) = true by simpa using hkl, if_pos hkl]
    rw [if_pos rfl]
    refine ⟨_, rfl, ?_⟩
    rw [List.take_of_length_le (l := l.drop k') (by rw [List.length_drop]; omega)]
   ·have hkl2 : k = l.length := by have := hk.1; omega
    rw [show decide (k < l.length) = false by simpa using hkl, if_neg hkl]
    rw [if_neg (by decide), Jak (by simp; omega), Option.bind_some]
    refine ⟨_, rfl, ?_⟩
    rw [hkl2, List.drop_eq_nil_of_le (by omega)]
 exact hr
theorem JsO {x : T_api_Image} (hx : J3E x) {id : Int} (h0 : 0 ≤ id) (h1 : id < 64) : ∃ k, Cut x.Copies id k := by
 obtain ⟨k, hk, _⟩ := Jdj hx h0 h1
 exact ⟨k, hk⟩
def Jbq : T_api_Copy := ⟨0, 0, []⟩
def J6W (l : List T_api_Copy) (id : Int) : T_api_Copy × Bool := match l.find? (fun c => c.Page == id) with
 | some c => (c, true)
 | none => (Jbq, false)
theorem Jra {l : List T_api_Copy} (ho : Asc l) {id : Int} {k : Nat} (hk : Cut l id k) : J6W l id = if J40 l id k then (l[k]?.getD Jbq, true) else (Jbq, false) := by
 unfold J6W
 split
 ·rename_i c hc
  have h1 := List.find?_some hc
  obtain ⟨j, hj⟩ := List.getElem?_of_mem (List.mem_of_find?_eq_some hc)
  have hlt : j < l.length := by
   rcases Nat.lt_or_ge j l.length with h' | h'
   ·exact h'
   ·simp [List.getElem?_eq_none h'] at hj
  rw [List.getElem?_eq_getElem hlt] at hj
  injection hj with hj
  have hid : l[j].Page = id := by rw [hj]; simpa using h1
  have hjk : j = k := by
   rcases Nat.lt_trichotomy j k with h | h | h
   ·have := hk.2.1 j hlt h; omega
   ·exact h
   ·have := hk.2.2 k (by omega) (Nat.le_refl _); have := ho k j hlt h; omega
  subst hjk
  rw [if_pos (J6a.2 ⟨hlt, hid⟩), List.getElem?_eq_getElem hlt, hj]
  rfl
 ·rename_i hc
  rw [if_neg]
  intro h
  obtain ⟨h1, h2⟩ := J6a.1 h
  have := List.find?_eq_none.1 hc _ (List.getElem_mem h1)
  simp [h2] at this
theorem JmD {x : T_api_Image} (hl : x.Copies.length < 1000000) (id : Int) : J4H x id = some (if J8r x then J6W x.Copies id else (Jbq, false)) := by
 unfold J4H
 rw [J7J x hl, Option.bind_some]
 by_cases hx : J3E x
 ·rw [J5C.2 hx, if_pos rfl, if_pos rfl]
  by_cases hr : 0 ≤ id ∧ id < x.Pages
  ·rw [if_neg (by simp; omega), if_neg (by simp; omega)]
   obtain ⟨k, hk, e⟩ := Jdj hx hr.1 (by have := hx.p2; omega)
   rw [e, Option.bind_some, Jra hx.ord hk]
   dsimp only
   by_cases ht : J40 x.Copies id k = true
   ·obtain ⟨h1, h2⟩ := J6a.1 ht
    rw [if_pos ht, if_pos ht, J57, List.getElem?_eq_getElem h1]
    rfl
   ·rw [if_neg ht, if_neg ht]
    rfl
  ·have hf : J6W x.Copies id = (Jbq, false) := by
    unfold J6W
    rw [List.find?_eq_none.2 fun c hc => by
     have := J72 (hx.copies c hc)
     simp; omega]
   rw [hf]
   by_cases hneg : id < 0
   ·rw [if_pos (by simp; omega)]; rfl
   ·rw [if_neg (by simp; omega), if_pos (by simp; omega)]; rfl
 ·have : J8r x = false := by
   cases h : J8r x with
   | false => rfl
   | true => exact absurd (J5C.1 h) hx
  rw [this]
  rfl
theorem Jn8 {x : T_api_Image} (hl : x.Copies.length < 1000000) : ∃ r, J4j x = some r ∧ Jcy x = some r ∧ r = (J8r x && ((x.Copies.length : Int) == x.Pages)) := by
 unfold J4j Jcy
 rw [J7J x hl, JeP x hl]
 cases J8r x <;> exact ⟨_, rfl, rfl, by simp⟩
end Go.Am
end
section
namespace Go.Am
set_option maxRecDepth 16000
set_option linter.unusedSimpArgs false
set_option linter.unusedVariables false
theorem JjG {l : List T_api_Copy} : Asc l ↔ l.Pairwise fun a b => a.Page < b.Page := by
 rw [List.pairwise_iff_getElem]
 exact ⟨fun h i j hi hj hij => h i j hj hij, fun h i j hj hij => h i j (by omega) hj hij⟩
theorem Jm5 {l : List T_api_Copy} {id : Int} {k : Nat} (hk : Cut l id k) : ∀ y ∈ l.take k, y.Page < id ∧ y ∈ l := by
 intro y hy
 obtain ⟨j, hj, rfl⟩ := List.mem_iff_getElem.1 hy
 simp only [List.length_take] at hj
 rw [List.getElem_take]
 exact ⟨hk.2.1 j (by omega) (by omega), List.getElem_mem _⟩
theorem Jhk {l : List T_api_Copy} (ho : Asc l) {id : Int} {k : Nat} (hk : Cut l id k) : ∀ y ∈ l.drop (if J40 l id k then k + 1 else k), id < y.Page ∧ y ∈ l := by
 intro y hy
 obtain ⟨j, hj, rfl⟩ := List.mem_iff_getElem.1 hy
 simp only [List.length_drop] at hj
 rw [List.getElem_drop]
 refine ⟨?_, List.getElem_mem _⟩
 by_cases ht : J40 l id k = true
 ·obtain ⟨h1, h2⟩ := J6a.1 ht
  simp only [ht, if_true] at hj ⊢
  have := ho k (k + 1 + j) (by omega) (by omega)
  omega
 ·simp only [ht, Bool.false_eq_true, if_false] at hj ⊢
  have h0 := hk.2.2 (k + j) (by omega) (by omega)
  rcases Nat.eq_zero_or_pos j with hz | hz
  ·subst hz
   have : l[k].Page ≠ id := fun h => ht (J6a.2 ⟨by omega, h⟩)
   simp only [Nat.add_zero] at h0 ⊢
   omega
  ·have := ho k (k + j) (by omega) (by omega)
   have := hk.2.2 k (by omega) (Nat.le_refl _)
   omega
theorem JbB {l : List T_api_Copy} (ho : Asc l) {c : T_api_Copy} {k : Nat} (hk : Cut l c.Page k) (y : T_api_Copy) : y ∈ J9s l c k ↔ y = c ∨ (y ∈ l ∧ y.Page ≠ c.Page) := by
 unfold J9s
 rw [List.mem_append, List.mem_cons]
 constructor
 ·rintro (h | h | h)
  ·have := Jm5 hk y h; exact .inr ⟨this.2, by omega⟩
  ·exact .inl h
  ·have := Jhk ho hk y h; exact .inr ⟨this.2, by omega⟩
 ·rintro (h | ⟨h, hne⟩)
  ·exact .inr (.inl h)
  ·obtain ⟨j, hj, rfl⟩ := List.mem_iff_getElem.1 h
   rcases Nat.lt_or_ge j k with h1 | h1
   ·exact .inl (List.mem_iff_getElem.2 ⟨j, by simp; omega, by rw [List.getElem_take]⟩)
   ·refine .inr (.inr ?_)
    have hge : (if J40 l c.Page k then k + 1 else k) ≤ j := by
     split
     ·rename_i ht
      obtain ⟨h3, h4⟩ := J6a.1 ht
      rcases Nat.eq_or_lt_of_le h1 with h5 | h5
      ·subst h5; exact absurd h4 hne
      ·exact h5
     ·exact h1
    generalize (if J40 l c.Page k then k + 1 else k) = k' at hge
    exact List.mem_iff_getElem.2 ⟨j - k', by simp; omega, by rw [List.getElem_drop]; congr 1; omega⟩
theorem Jmr {l : List T_api_Copy} (ho : Asc l) {c : T_api_Copy} {k : Nat} (hk : Cut l c.Page k) : Asc (J9s l c k) := by
 rw [JjG]
 have hp := JjG.1 ho
 unfold J9s
 rw [List.pairwise_append, List.pairwise_cons]
 refine ⟨hp.sublist (List.take_sublist _ _), ⟨fun y hy => (Jhk ho hk y hy).1, hp.sublist (List.drop_sublist _ _)⟩, fun a ha b hb => ?_⟩
 have h1 := (Jm5 hk a ha).1
 rcases List.mem_cons.1 hb with h | h
 ·rw [h]; exact h1
 ·have := (Jhk ho hk b h).1; omega
theorem Jnv {x : T_api_Image} (hx : J3E x) {id : Int} {s : List UInt8} (h0 : 0 ≤ id) (h1 : id < x.Pages) (hs : (idn s id).2 = 0) {k : Nat} (hk : Cut x.Copies id k) :
  J3E ⟨x.ID, x.Pages, J9s x.Copies ⟨id, (idn s id).1.LSN, s⟩ k⟩ := by
 have ho := hx.ord
 refine ⟨hx.id1, hx.id2, hx.p1, hx.p2, fun y hy => ?_, fun j hj => Jmr (c := ⟨id, (idn s id).1.LSN, s⟩) ho hk j (j + 1) hj (by omega)⟩
 rcases (JbB (c := ⟨id, (idn s id).1.LSN, s⟩) ho hk y).1 hy with h | h
 ·subst h
  simp [J7s, h1, hs]
 ·exact hx.copies y h.1
theorem Jch {l : List T_api_Copy} (ho : Asc l) {id : Int} {y : T_api_Copy} (hy : y ∈ l) (hid : y.Page = id) : J6W l id = (y, true) := by
 unfold J6W
 cases hf : l.find? (fun c => c.Page == id) with
 | none => have := List.find?_eq_none.1 hf y hy; simp [hid] at this
 | some c =>
  have h1 := List.find?_some hf
  have h2 := List.mem_of_find?_eq_some hf
  obtain ⟨i, hi, rfl⟩ := List.mem_iff_getElem.1 hy
  obtain ⟨j, hj, rfl⟩ := List.mem_iff_getElem.1 h2
  simp only [beq_iff_eq] at h1
  have : i = j := by
   rcases Nat.lt_trichotomy i j with h | h | h
   ·have := ho i j hj h; omega
   ·exact h
   ·have := ho j i hi h; omega
  subst this
  rfl
theorem JfU {l : List T_api_Copy} {id : Int} (h : ∀ y ∈ l, y.Page ≠ id) : J6W l id = (Jbq, false) := by
 unfold J6W
 rw [List.find?_eq_none.2 fun c hc => by simpa using h c hc]
theorem Jpi {l : List T_api_Copy} (ho : Asc l) {c : T_api_Copy} {k : Nat} (hk : Cut l c.Page k) (id : Int) : J6W (J9s l c k) id = if id = c.Page then (c, true) else J6W l id := by
 have ho' := Jmr ho hk
 by_cases h : id = c.Page
 ·rw [if_pos h]
  exact Jch ho' ((JbB ho hk c).2 (.inl rfl)) h.symm
 ·rw [if_neg h]
  by_cases hx : ∃ y ∈ l, y.Page = id
  ·obtain ⟨y, hy, hid⟩ := hx
   rw [Jch ho hy hid, Jch ho' ((JbB ho hk y).2 (.inr ⟨hy, by omega⟩)) hid]
  ·rw [JfU fun y hy => ?_, JfU fun y hy => ?_]
   ·exact fun e => hx ⟨y, hy, e⟩
   ·intro e
    rcases (JbB ho hk y).1 hy with h2 | h2
    ·subst h2; exact h e.symm
    ·exact hx ⟨y, h2.1, e⟩
theorem JoM {x : T_api_Image} (hx : J3E x) {id : Int} {s : List UInt8} (h0 : 0 ≤ id) (h1 : id < x.Pages) (hs : (idn s id).2 = 0) :
  ∃ y, J4C x id s = some (y, 0) ∧ JaX x id s = some (y, 0) ∧ J3E y ∧ y.ID = x.ID ∧ y.Pages = x.Pages ∧ (∀ z, z ∈ y.Copies ↔ z = ⟨id, (idn s id).1.LSN, s⟩ ∨ (z ∈ x.Copies ∧ z.Page ≠ id)) ∧
   ∀ i, J6W y.Copies i = if i = id then (⟨id, (idn s id).1.LSN, s⟩, true) else J6W x.Copies i := by
 obtain ⟨k, hk⟩ := JsO hx h0 (by have := hx.p2; omega)
 exact ⟨_, Jnt hx h0 h1 hs hk, JrX hx h0 h1 hs hk, Jnv hx h0 h1 hs hk, rfl, rfl, fun z => JbB (c := ⟨id, (idn s id).1.LSN, s⟩) hx.ord hk z, fun i => Jpi (c := ⟨id, (idn s id).1.LSN, s⟩) hx.ord hk i⟩
end Go.Am
end
section
namespace Go.Am
set_option maxRecDepth 16000
set_option linter.unusedSimpArgs false
set_option linter.unusedVariables false
def part (s : List UInt8) (at_ n : Nat) : List UInt8 := (s.drop at_).take n
def Jdh (p : List UInt8) : List UInt8 := Js (p.length : Int) 4 ++ p ++ Js ((crc (Js (p.length : Int) 4 ++ p) : Nat) : Int) 4
theorem J7i (p : List UInt8) : (Jdh p).length = p.length + 8 := by simp [Jdh, Jk]; omega
theorem JgF {p : List UInt8} (h : p.length ≤ 8392) : J2b p = some (Jdh p) := by
 unfold J2b
 rw [if_neg (by simp; omega), show (4 : Int) = ((4 : Nat) : Int) from rfl, JdX [] _ (by decide) (by decide) (by simp), Option.bind_some, List.nil_append, J9X (by simp [Jk]; omega), Option.bind_some, JfF _ (by simp [Jk]; omega), Option.bind_some]
 have hc := Jgk (Js (p.length : Int) 4 ++ p)
 rw [wrap64 (by omega) (by omega), JdX _ _ (by decide) (by decide) (by simp [Jk]; omega)]
 rfl
end Go.Am
end
section
namespace Go.Am
set_option maxRecDepth 16000
set_option linter.unusedSimpArgs false
set_option linter.unusedVariables false
def Jjz (x : T_api_Image) : List UInt8 := [80, 77, 73, 77] ++ Js x.ID 4 ++ Js x.Pages 2 ++ Js (x.Copies.length : Int) 2
def JjB (c : T_api_Copy) : List UInt8 := Js c.Page 2 ++ c.Data
def J9Y (l : List T_api_Copy) : List UInt8 := (l.map fun c => Jdh (JjB c)).flatten
def Jqj (x : T_api_Image) : List UInt8 := Jdh (Jjz x) ++ J9Y x.Copies
theorem JaP (x : T_api_Image) : (Jjz x).length = 12 := by simp [Jjz, Jk]
theorem JaK {c : T_api_Copy} (h : c.Data.length = 256) : (JjB c).length = 258 := by simp [JjB, Jk, h]
theorem J3E.data {x : T_api_Image} (h : J3E x) : ∀ c ∈ x.Copies, c.Data.length = 256 := fun c hc => (Jiq (J72 (h.copies c hc)).2.2.2.1).2.2
theorem JeW : ∀ {l : List T_api_Copy}, (∀ c ∈ l, c.Data.length = 256) → (J9Y l).length = 266 * l.length
 | [], _ => rfl
 | c :: l, h => by
  have := JeW (l := l) fun c hc => h c (by simp [hc])
  unfold J9Y at this ⊢
  rw [List.map_cons, List.flatten_cons, List.length_append, this, J7i, JaK (h c (by simp))]
  simp; omega
theorem Jpg {x : T_api_Image} (h : J3E x) : (Jqj x).length = 20 + 266 * x.Copies.length := by
 unfold Jqj
 rw [List.length_append, J7i, JaP, JeW h.data]
theorem Ji0 : ∀ (l : List T_api_Copy) (s : List UInt8), (∀ c ∈ l, c.Data.length = 256) → s.length + 300 * l.length ≤ 1000000 → Ja8 l s = some (s ++ J9Y l)
 | [], s, _, _ => by simp [Ja8, J9Y]
 | c :: l, s, h, hs => by
  have hd := h c (by simp)
  simp only [List.length_cons] at hs
  unfold Ja8
  have e1 : J0i [] c.Page 2 = some (Js c.Page 2) := by
   have := JdX [] c.Page (k := 2) (by decide) (by decide) (by simp)
   simpa using this
  rw [e1, Option.bind_some, J9X (by simp [Jk]; omega), Option.bind_some, show Js c.Page 2 ++ c.Data = JjB c from rfl, JgF (by rw [JaK hd]; omega), Option.bind_some]
  rw [if_pos (by rw [J7i, JaK hd]; omega), Ji0 l _ (fun c hc => h c (by simp [hc])) (by rw [List.length_append, J7i, JaK hd]; omega)]
  simp [J9Y]
theorem Jqk (put : List UInt8 → Int → Int → Option (List UInt8)) (h : ∀ (l : List UInt8) (n : Int) (k : Nat), 1 ≤ k → k ≤ 8 → l.length ≤ 1000 → put l n (k : Int) = some (l ++ Js n k)) (x : T_api_Image) {ρ : Type} (f : List UInt8 → Option ρ) :
  (Option.bind (put [80, 77, 73, 77] x.ID 4) fun h1 => Option.bind (put h1 x.Pages 2) fun h2 => Option.bind (put h2 ((x.Copies.length : Nat) : Int) 2) fun h3 => f h3) = f (Jjz x) := by
 rw [show (4 : Int) = ((4 : Nat) : Int) from rfl, show (2 : Int) = ((2 : Nat) : Int) from rfl, h _ _ 4 (by decide) (by decide) (by simp), Option.bind_some, h _ _ 2 (by decide) (by decide) (by simp [Jk]), Option.bind_some, h _ _ 2 (by decide) (by decide) (by simp [Jk]), Option.bind_some]
 rfl
theorem Jko {x : T_api_Image} (hl : x.Copies.length ≤ 1000) : J2g x = some (if J8r x then (Jqj x, 0) else ([], 43)) := by
 unfold J2g
 rw [J7J x (by omega), Option.bind_some]
 by_cases hx : J3E x
 ·rw [J5C.2 hx, if_pos rfl, if_pos rfl]
  rw [Jqk J0i (fun l n k h1 h8 h => JdX l n h1 h8 (by omega)) x, JgF (by rw [JaP]; omega), Option.bind_some, if_pos (by rw [J7i, JaP]; omega),
   Ji0 _ _ hx.data (by rw [J7i, JaP]; omega), Option.bind_some]
  rfl
 ·have : J8r x = false := by
   cases h : J8r x with
   | false => rfl
   | true => exact absurd (J5C.1 h) hx
  rw [this]
  rfl
end Go.Am
end
section
namespace Go.Am
set_option maxRecDepth 16000
set_option linter.unusedSimpArgs false
set_option linter.unusedVariables false
theorem JjO {σ ρ : Type} {f : σ → Option (σ ⊕ ρ)} (I : σ → Prop) (m : σ → Nat) (Q : ρ → Prop)
  (h : ∀ s, I s → Tot (f s) fun r => (∃ s', r = .inl s' ∧ I s' ∧ m s' < m s) ∨ ∃ x, r = .inr x ∧ Q x) {s : σ} (hs : I s) : Tot (Ju f s) Q := by
 obtain ⟨r, h1, h2⟩ := J0L (f := f) I m Q (fun s hs => by
  obtain ⟨r, e, h3⟩ := h s hs
  rcases h3 with ⟨s', rfl, h4, h5⟩ | ⟨x, rfl, h4⟩
  ·exact .inl ⟨s', e, h4, h5⟩
  ·exact .inr ⟨x, e, h4⟩) s hs
 exact ⟨r, h1, h2⟩
theorem JlD {p : T_api_Page} (hp : J3c p) : J2d p = some (JaB p, 0) := by rw [Jc6, JdI hp]
theorem JjV {p : T_api_Page} (hp : J3c p) : idn (JaB p) p.ID = (p, 0) := by
 have h := JbF (JaB p) p.ID
 rw [Jjf hp hp.id0 hp.id1, if_pos rfl] at h
 injection h with h
 exact h.symm
section
variable {b : T_pagemenddraw_Codes} (hb : J1z b)
include hb
theorem JsH {id : Int} (h0 : 0 ≤ id) (h1 : id < 64) : Drw (J2o b id) fun p => J3c p ∧ p.ID = id := by
 obtain ⟨p, b', e, h2, h3, h4⟩ := Jou hb h0 h1
 exact ⟨_, e, h2, h3, h4⟩
end
theorem Jf5 : J3E ⟨1, 1, []⟩ := ⟨by decide, by decide, by decide, by decide, fun c hc => (List.not_mem_nil hc).elim, fun k hk => (Nat.not_lt_zero _ hk).elim⟩
theorem JqM : J4e = some true := by
 unfold J4e
 rw [Jko (by simp), J5C.2 Jf5, if_pos rfl, Option.bind_some]
 have hl := Jpg Jf5
 rw [if_pos (by rfl), if_pos (by dsimp only; rw [hl]; rfl), J7J _ (by simp), J5C.2 Jf5]
 rfl
end Go.Am
end
