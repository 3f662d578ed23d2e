/-
  Parts of a proof.
-/
import Derived.ChangeArms
import Derived.OpenShut
import Derived.ChangeBears
import Derived.ChangeStays
import Derived.Handed
import Derived.RowKit3
import Derived.WalkKit
import Derived.ProofKit
import Derived.Test.YtiallbcnaadmoaaM4
import Derived.Test.YtiallbcnaadmoaaM11
set_option linter.unusedSimpArgs false
set_option linter.unusedVariables false
section
namespace Go.Am
theorem Jwb {x b j : Nat} (hj : j ≤ 7) (hx : x < 2 ^ (8 * j)) (hb : b < 256) :
  orI .u64 (x : Int) (IntKind.wrap .u64 (((b : Nat) : Int) * 2 ^ (8 * j))) = ((x + b * 2 ^ (8 * j) : Nat) : Int) := by
 have p1 : (2 : Nat) ^ (8 * j) * 256 ≤ 2 ^ 64 := by
  rw [show (256 : Nat) = 2 ^ 8 by rfl, ← Nat.pow_add]
  exact Nat.pow_le_pow_right (by omega) (by omega)
 have p2 : b * 2 ^ (8 * j) + 2 ^ (8 * j) ≤ 2 ^ 64 := by
  have : (b + 1) * 2 ^ (8 * j) ≤ 256 * 2 ^ (8 * j) := Nat.mul_le_mul_right _ (by omega)
  rw [Nat.add_mul, Nat.one_mul] at this
  omega
 have w : IntKind.wrap .u64 (((b : Nat) : Int) * 2 ^ (8 * j)) = ((b * 2 ^ (8 * j) : Nat) : Int) := by
  have e : (((b : Nat) : Int) * 2 ^ (8 * j)) = ((b * 2 ^ (8 * j) : Nat) : Int) := by simp
  rw [e, JbA (by omega) (by omega)]
 rw [w]
 have e1 : ∀ y : Nat, y < 2 ^ 64 → (BitVec.ofInt 64 (y : Int)).toNat = y := by
  intro y hy
  rw [BitVec.toNat_ofInt]
  omega
 show IntKind.wrap .u64 (((BitVec.ofInt 64 (x : Int) ||| BitVec.ofInt 64 ((b * 2 ^ (8 * j) : Nat) : Int)).toNat : Nat) : Int) = _
 rw [BitVec.toNat_or, e1 x (by omega), e1 _ (by omega)]
 have e2 : x ||| b * 2 ^ (8 * j) = x + b * 2 ^ (8 * j) := by
  rw [Nat.or_comm, Nat.mul_comm b, ← Nat.two_pow_add_eq_or_of_lt hx, Nat.add_comm]
 rw [e2, JbA (by omega) (by omega)]
end Go.Am
end
section
namespace Go.Am
def Jco (c : Je) : List UInt8 := JM (if c.Set then (c.Data.length : Int) else 255) 1 ++ c.Data ++ List.replicate (12 - c.Data.length) 0
theorem JrY {c : Je} (h : c.Data.length ≤ 12) : (Jco c).length = 13 := by
 simp only [Jco, List.length_append, JJ, List.length_replicate]; omega
theorem JrI (b : T_page_builder) (c : Je) (hc : c.Data.length ≤ 12) (hb : b.s_.length ≤ 300) : J1U b c = some ⟨b.s_ ++ Jco c⟩ := by
 have go : ∀ x : Int, J1v x b c = some ⟨b.s_ ++ (JM x 1 ++ c.Data ++ List.replicate (12 - c.Data.length) 0)⟩ := by
  intro x
  have e0 : IntKind.wrap .i64 (12 - ((c.Data.length : Nat) : Int)) = ((12 - c.Data.length : Nat) : Int) := by rw [wrap64 (by omega) (by omega)]; omega
  have e1 := Ja1 b.s_ x (k := 1) (by omega) (by omega) (by omega)
  have e2 : J2I (b.s_ ++ JM x 1) c.Data = some (b.s_ ++ JM x 1 ++ c.Data) := Jej (by rw [List.length_append, JJ]; omega) (by omega)
  have e3 := JcP (n := ((12 - c.Data.length : Nat) : Int)) (by omega) (by omega)
  rw [Int.toNat_natCast] at e3
  have e4 : J2I (b.s_ ++ JM x 1 ++ c.Data) (List.replicate (12 - c.Data.length) 0) = some (b.s_ ++ JM x 1 ++ c.Data ++ List.replicate (12 - c.Data.length) 0) := Jej (by simp only [List.length_append, JJ]; omega) (by simp; omega)
  unfold J1v
  rw [show (1 : Int) = ((1 : Nat) : Int) by rfl, e1, Option.bind_some, e2, Option.bind_some, e0, e3, Option.bind_some, e4, Option.bind_some]
  simp only [List.append_assoc]
 unfold J1U Jco
 cases hs : c.Set with
 | true => simp only [if_true]; exact go _
 | false => simp only [Bool.false_eq_true, if_false]; exact go _
end Go.Am
end
section
namespace Go.Am
def J55 (l : List Je) : List UInt8 := (l.map Jco).flatten
theorem Jci : ∀ {l : List Je}, (∀ c ∈ l, c.Data.length ≤ 12) → (J55 l).length = 13 * l.length
 | [], _ => rfl
 | c :: l, h => by
  have h1 := JrY (h c (by simp))
  have h2 := Jci (l := l) fun d hd => h d (by simp [hd])
  simp only [J55, List.map_cons, List.flatten_cons, List.length_append, List.length_cons] at h2 ⊢
  omega
theorem Ji5 (l : List Je) (c : Je) : J55 (l ++ [c]) = J55 l ++ Jco c := by simp [J55]
def J3d (p : T_api_Page) : List UInt8 := JM p.LSN 8 ++ JM p.ID 4 ++ J55 p.Cells.toList ++ List.replicate 24 0
theorem Jpi {p : T_api_Page} (hp : J6s p) : ∃ c, J2B (J3d p) = some c ∧ J18 p = some (J3d p ++ JM (IntKind.wrap .i64 c) 4 ++ JM p.LSN 8, 0) := by
 have hd : ∀ c ∈ p.Cells.toList, c.Data.length ≤ 12 := by
  intro c hc
  obtain ⟨i, hi, rfl⟩ := List.getElem_of_mem hc
  have h16 : i < 16 := by simpa using hi
  have := (hp.cells i h16).1
  simpa using this
 have loop := J14 (f := fun s : Int × T_page_builder => J28 p.Cells p s.1 s.2) (fun s => ∃ j : Nat, s.1 = j ∧ j ≤ 16 ∧ s.2.s_ = JM p.LSN 8 ++ JM p.ID 4 ++ J55 (p.Cells.toList.take j)) (fun s => (16 - s.1).toNat)
  (fun r => ∃ c, J2B (J3d p) = some c ∧ r = (J3d p ++ JM (IntKind.wrap .i64 c) 4 ++ JM p.LSN 8, 0)) (fun s ⟨j, hj, h4, ht⟩ => by
  obtain ⟨j', b⟩ := s
  simp only at hj ht
  subst hj
  have hl : (J55 (p.Cells.toList.take j)).length = 13 * j := by
   rw [Jci fun c hc => hd c (List.mem_of_mem_take hc)]
   simp; omega
  have hbl : b.s_.length = 12 + 13 * j := by rw [ht]; simp only [List.length_append, JJ, hl]
  by_cases hlt : j < 16
  ·left
   have e1 : ((j : Nat) : Int) < 16 := by omega
   have e2 := JrI b p.Cells[j] (hp.cells j hlt).1 (by omega)
   have e3 : p.Cells.toList.take (j + 1) = p.Cells.toList.take j ++ [p.Cells[j]] := by
    rw [List.take_add_one, List.getElem?_eq_getElem (by simpa using hlt)]
    simp
   exact ⟨⟨((j + 1 : Nat) : Int), ⟨b.s_ ++ Jco p.Cells[j]⟩⟩, by simp only [J28, e1, decide_true, if_true, J5a _ j hlt, Option.bind_some, e2, J2L (show j < 1000000 by omega)], ⟨j + 1, rfl, by omega, by show b.s_ ++ _ = _; rw [ht, e3, Ji5]; simp only [List.append_assoc]⟩, by simp; omega⟩
  ·right
   obtain rfl : j = 16 := by omega
   have e1 : ¬ (((16 : Nat) : Nat) : Int) < 16 := by omega
   have e5 : p.Cells.toList.take 16 = p.Cells.toList := List.take_of_length_le (by simp)
   rw [e5] at ht
   have a0 : IntKind.wrap .i64 (244 - ((b.s_.length : Nat) : Int)) = 24 := by rw [hbl, wrap64 (by omega) (by omega)]; omega
   have a1 : J40 [0] 24 = some (List.replicate 24 0) := JcP (n := 24) (by omega) (by omega)
   have a6 : b.s_ ++ List.replicate 24 0 = J3d p := by rw [ht]; rfl
   have a7 : (J3d p).length = 244 := by rw [← a6]; simp [hbl]
   have a2 : J2I b.s_ (List.replicate 24 0) = some (J3d p) := by rw [← a6]; exact Jej (by omega) (by simp)
   obtain ⟨r, a3⟩ := Jnm (J3d p) (by omega)
   have a4 := Ja1 (J3d p) (IntKind.wrap .i64 r) (k := 4) (by omega) (by omega) (by omega)
   have a5 := Ja1 (J3d p ++ JM (IntKind.wrap .i64 r) 4) p.LSN (k := 8) (by omega) (by omega) (by simp [a7, JJ])
   refine ⟨_, ?_, r, a3, rfl⟩
   simp only [J28, e1, decide_false, Bool.false_eq_true, if_false, J7k, a0, a1, a2, a3, Option.bind_some]
   rw [show (4 : Int) = ((4 : Nat) : Int) by rfl, a4, Option.bind_some, show (8 : Int) = ((8 : Nat) : Int) by rfl, a5]
   rfl) (0, ⟨JM p.LSN 8 ++ JM p.ID 4⟩) ⟨0, rfl, by omega, by simp [J55]⟩
 obtain ⟨r, hr, c, hc, rfl⟩ := loop
 refine ⟨c, hc, ?_⟩
 obtain ⟨d, e2, _, hd2⟩ := JlK p
 have hd3 := hd2 hp.cells
 subst hd3
 have e1 : J1F p = some true := by
  have i0 := hp.id0; have i1 := hp.id1; have l0 := hp.lsn0; have l1 := hp.lsn1
  simp [J1F, J1I, i0, i1, l0, l1]
 have a1 := Ja1 [] p.LSN (k := 8) (by omega) (by omega) (by simp)
 have a2 := Ja1 ([] ++ JM p.LSN 8) p.ID (k := 4) (by omega) (by omega) (by simp [JJ])
 unfold J18
 simp only [e1, e2, Option.bind_some, if_true]
 rw [show (8 : Int) = ((8 : Nat) : Int) by rfl, a1, Option.bind_some, show (4 : Int) = ((4 : Nat) : Int) by rfl, a2, Option.bind_some, List.nil_append]
 exact hr
end Go.Am
end
section
namespace Go.Am
theorem Jd2 {p : T_api_Page} (hp : J6s p) : (J3d p).length = 244 := by
 have hd : ∀ c ∈ p.Cells.toList, c.Data.length ≤ 12 := by
  intro c hc
  obtain ⟨i, hi, rfl⟩ := List.getElem_of_mem hc
  have h16 : i < 16 := by simpa using hi
  have := (hp.cells i h16).1
  simpa using this
 unfold J3d
 simp only [List.length_append, JJ, List.length_replicate]
 rw [Jci hd]
 simp
end Go.Am
end
section
namespace Go.Am
end Go.Am
end
section
namespace Go.Am
theorem JsV {b : T_pagemenddraw_Codes} (hb : J0c b) : ∃ x b', J2W b = some (x, b') ∧ J0c b' := by
 obtain ⟨r, b1, e1, hb1, _, _⟩ := J3c hb (n := 10) (by omega) (by omega)
 unfold J2W
 simp only [e1, Option.bind_some]
 by_cases h0 : r = 0
 ·obtain ⟨r2, b2, e2, hb2, _, _⟩ := J3c hb1 (n := 3) (by omega) (by omega)
  exact ⟨_, b2, by rw [if_pos (by simpa using h0), e2]; rfl, hb2⟩
 ·rw [if_neg (by simpa using h0)]
  by_cases h1 : r = 1
  ·obtain ⟨r2, b2, e2, hb2, hr0, hr1⟩ := J3c hb1 (n := 16) (by omega) (by omega)
   obtain ⟨k, rfl⟩ : ∃ k : Nat, r2 = (k : Int) := ⟨r2.toNat, by omega⟩
   rw [if_pos (by simpa using h1), e2]
   simp only [Option.bind_some, J2N]
   rw [List.getElem?_eq_getElem (by simp; omega)]
   exact ⟨_, b2, rfl, hb2⟩
  ·obtain ⟨r2, b2, e2, hb2, _, _⟩ := J3c hb1 (n := 20) (by omega) (by omega)
   rw [if_neg (by simpa using h1), e2]
   exact ⟨_, b2, rfl, hb2⟩
end Go.Am
end
section
namespace Go.Am
def Jh7 (p : T_api_Page) : Prop := ∀ (i : Nat) (h : i < 16), J62 p.LSN p.Cells[i]
theorem JlS (p : T_api_Page) : ∃ b, J5s p = some b ∧ (b = true ↔ Jh7 p) := by
 refine J14 (f := fun s : Int => J0n p.Cells p s) (fun s => ∃ j : Nat, s = j ∧ j ≤ 16 ∧ ∀ (i : Nat) (h : i < 16), i < j → J62 p.LSN p.Cells[i]) (fun s => (16 - s).toNat)
  (fun b => b = true ↔ Jh7 p) (fun s ⟨j, hj, h4, hc⟩ => ?_) 0 ⟨0, rfl, by omega, fun i h hh => by omega⟩
 subst hj
 by_cases hlt : j < 16
 ·have e1 : ((j : Nat) : Int) < 16 := by omega
  have e2 := J5a p.Cells j hlt
  have e3 := J2L (show j < 1000000 by omega)
  have bad : ¬ J62 p.LSN p.Cells[j] → (false = true ↔ Jh7 p) := fun h1 => ⟨fun h => (by cases h), fun h2 => (h1 (h2 j hlt)).elim⟩
  have nxt : J62 p.LSN p.Cells[j] → ∀ (i : Nat) (h : i < 16), i < j + 1 → J62 p.LSN p.Cells[i] := by
   intro hok i hi hij
   by_cases hh : i < j
   ·exact hc i hi hh
   ·obtain rfl : i = j := by omega
    exact hok
  by_cases h12 : (((p.Cells[j]).Data.length : Nat) : Int) > 12
  ·right
   exact ⟨false, by simp only [J0n, e1, decide_true, if_true, e2, Option.bind_some, h12], bad fun h => by have := h.1; omega⟩
  ·by_cases hs : (p.Cells[j]).Set = true
   ·by_cases hl : p.LSN = 0
    ·right
     exact ⟨false, by simp only [J0n, e1, decide_true, if_true, e2, Option.bind_some, h12, decide_false, Bool.false_eq_true, if_false, hs, hl, beq_self_eq_true], bad fun h => h.2.2 hs hl⟩
    ·left
     have e4 : (p.LSN == 0) = false := by simpa using hl
     exact ⟨((j + 1 : Nat) : Int), by simp only [J0n, e1, decide_true, if_true, e2, Option.bind_some, h12, decide_false, Bool.false_eq_true, if_false, hs, e4, e3], ⟨j + 1, rfl, by omega, nxt ⟨by omega, (fun h => by rw [hs] at h; cases h), fun _ => hl⟩⟩, by omega⟩
   ·have hs' : (p.Cells[j]).Set = false := by simpa using hs
    by_cases hd : (p.Cells[j]).Data = []
    ·left
     exact ⟨((j + 1 : Nat) : Int), by simp only [J0n, e1, decide_true, if_true, e2, Option.bind_some, h12, decide_false, Bool.false_eq_true, if_false, hs', hd, beq_self_eq_true, e3]; rfl, ⟨j + 1, rfl, by omega, nxt ⟨by omega, fun _ => hd, fun h => (hs h).elim⟩⟩, by omega⟩
    ·right
     have e4 : ((p.Cells[j]).Data == []) = false := by simpa using hd
     exact ⟨false, by simp only [J0n, e1, decide_true, if_true, e2, Option.bind_some, h12, decide_false, Bool.false_eq_true, if_false, hs', e4], bad fun h => hd (h.2.1 hs')⟩
 ·right
  have e1 : ¬ ((j : Nat) : Int) < 16 := by omega
  exact ⟨true, by simp only [J0n, e1, decide_false, Bool.false_eq_true, if_false, J8a, Option.map_some], fun _ i h => hc i h (by omega), fun _ => rfl⟩
end Go.Am
end
section
namespace Go.Am
theorem JgI {n : Int} (h0 : 0 ≤ n) (h1 : n ≤ 1000000) : J2o n = some (List.replicate n.toNat 0) := by
 have e : (0 : Int) ≤ n ∧ n ≤ n ∧ ((1 : Nat) : Int) * n ≤ 281474976710656 ∧ n ≤ 281474976710656 := by omega
 have e2 : toStr (List.replicate n.toNat (0 : Int)) = List.replicate n.toNat 0 := by
  simp [toStr]
 unfold J2o mkS
 rw [if_pos e, Option.bind_some, e2]
theorem JlU : J4W = some blk := by
 unfold J4W
 rw [JgI (by omega) (by omega)]
 rfl
theorem Jv3 (n : Int) : J8F n = J9K n := rfl
theorem Jpy (p : T_api_Page) : J4D p = J1F p := by
 unfold J4D J1F J1I
 by_cases h1 : p.ID ≥ 0
 ·by_cases h2 : p.ID < 64
  ·simp only [h1, h2, decide_true, if_true, Option.bind_some]
  ·simp only [h1, h2, decide_true, decide_false, if_true, Bool.false_eq_true, if_false, Option.bind_some]
 ·simp only [h1, decide_false, Bool.false_eq_true, if_false, Option.bind_some]
theorem JqR (p : T_api_Page) : ∃ b, J1F p = some b ∧ (b = true ↔ (0 ≤ p.ID ∧ p.ID < 64 ∧ 0 ≤ p.LSN ∧ p.LSN ≤ 1099511627776)) := by
 unfold J1F J1I
 by_cases h1 : p.ID ≥ 0
 ·by_cases h2 : p.ID < 64
  ·by_cases h3 : p.LSN ≥ 0
   ·refine ⟨decide (p.LSN ≤ 1099511627776), by simp only [h1, h2, h3, decide_true, if_true, Option.bind_some], ?_⟩
    rw [decide_eq_true_eq]
    exact ⟨fun h => ⟨h1, h2, h3, h⟩, fun h => h.2.2.2⟩
   ·exact ⟨false, by simp only [h1, h2, h3, decide_true, decide_false, if_true, Bool.false_eq_true, if_false, Option.bind_some], by simp; omega⟩
  ·exact ⟨false, by simp only [h1, h2, decide_true, decide_false, if_true, Bool.false_eq_true, if_false, Option.bind_some], by simp; omega⟩
 ·exact ⟨false, by simp only [h1, decide_false, Bool.false_eq_true, if_false, Option.bind_some], by simp; omega⟩
theorem Jn5 (p : T_api_Page) : ∃ b, J5X p = some b ∧ (b = true ↔ Jh7 p) := by
 refine J14 (f := fun s : Int => J1K p s) (fun s => ∃ j : Nat, s = j ∧ j ≤ 16 ∧ ∀ (i : Nat) (h : i < 16), i < j → J62 p.LSN p.Cells[i]) (fun s => (16 - s).toNat)
  (fun b => b = true ↔ Jh7 p) (fun s ⟨j, hj, h4, hc⟩ => ?_) 0 ⟨0, rfl, by omega, fun i h hh => by omega⟩
 subst hj
 by_cases hlt : j < 16
 ·have e1 : ((j : Nat) : Int) < 16 := by omega
  have e2 := J5a p.Cells j hlt
  have e3 := J2L (show j < 1000000 by omega)
  have e0 := J9N hlt
  have bad : ¬ J62 p.LSN p.Cells[j] → (false = true ↔ Jh7 p) := fun h1 => ⟨fun h => (by cases h), fun h2 => (h1 (h2 j hlt)).elim⟩
  have nxt : J62 p.LSN p.Cells[j] → ∀ (i : Nat) (h : i < 16), i < j + 1 → J62 p.LSN p.Cells[i] := by
   intro hok i hi hij
   by_cases hh : i < j
   ·exact hc i hi hh
   ·obtain rfl : i = j := by omega
    exact hok
  by_cases h12 : (((p.Cells[j]).Data.length : Nat) : Int) ≤ 12
  ·by_cases hs : (p.Cells[j]).Set = true
   ·have v1 : J0C p.Cells[j] = some true := by simp only [J0C, h12, decide_true, if_true, hs]
    by_cases hl : p.LSN = 0
    ·right
     exact ⟨false, by simp only [J1K, e1, decide_true, if_true, e0, e2, Option.bind_some, v1, hs, hl, beq_self_eq_true], bad fun h => h.2.2 hs hl⟩
    ·left
     have e4 : (p.LSN == 0) = false := by simpa using hl
     exact ⟨((j + 1 : Nat) : Int), by simp only [J1K, e1, decide_true, if_true, e0, e2, Option.bind_some, v1, e4, Bool.false_eq_true, if_false, e3], ⟨j + 1, rfl, by omega, nxt ⟨by omega, (fun h => by rw [hs] at h; cases h), fun _ => hl⟩⟩, by omega⟩
   ·have hs' : (p.Cells[j]).Set = false := by simpa using hs
    by_cases hd : (p.Cells[j]).Data = []
    ·have v1 : J0C p.Cells[j] = some true := by simp only [J0C, h12, decide_true, if_true, hs', Bool.false_eq_true, if_false]; rw [hd]; rfl
     left
     refine ⟨((j + 1 : Nat) : Int), ?_, ⟨j + 1, rfl, by omega, nxt ⟨by omega, fun _ => hd, fun h => (hs h).elim⟩⟩, by omega⟩
     simp only [J1K, e1, decide_true, if_true, e0, e2, Option.bind_some, v1, hs', Bool.false_eq_true, if_false, e3]
     split <;> rfl
    ·right
     have e4 : ((p.Cells[j]).Data == []) = false := by simpa using hd
     have v1 : J0C p.Cells[j] = some false := by simp only [J0C, h12, decide_true, if_true, hs', Bool.false_eq_true, if_false, e4]
     exact ⟨false, by simp only [J1K, e1, decide_true, if_true, e0, e2, Option.bind_some, v1, Bool.false_eq_true, if_false], bad fun h => hd (h.2.1 hs')⟩
  ·right
   have v1 : J0C p.Cells[j] = some false := by simp only [J0C, h12, decide_false, Bool.false_eq_true, if_false]
   exact ⟨false, by simp only [J1K, e1, decide_true, if_true, e0, e2, Option.bind_some, v1, Bool.false_eq_true, if_false], bad fun h => h12 (by have := h.1; omega)⟩
 ·right
  have e1 : ¬ ((j : Nat) : Int) < 16 := by omega
  exact ⟨true, by simp only [J1K, e1, decide_false, Bool.false_eq_true, if_false, J97, Option.map_some], fun _ i h => hc i h (by omega), fun _ => rfl⟩
theorem JrF (p : T_api_Page) : J5X p = J5s p := by
 obtain ⟨b, h1, h2⟩ := JlS p
 obtain ⟨c, h3, h4⟩ := Jn5 p
 rw [h1, h3]
 congr 1
 cases b <;> cases c <;> simp_all
def Jhd (p : T_api_Page) : List UInt8 := J3d p ++ JM ((crc (J3d p) : Nat) : Int) 4 ++ JM p.LSN 8
theorem Jlt {p : T_api_Page} (hp : J6s p) : J18 p = some (Jhd p, 0) := by
 obtain ⟨c, h1, h2⟩ := Jpi hp
 rw [Jiy _ (by rw [Jd2 hp]; omega)] at h1
 injection h1 with h1
 subst h1
 have hc := Jk0 (J3d p)
 rw [wrap64 (by omega) (by omega)] at h2
 exact h2
theorem Jjw {p : T_api_Page} (hp : J6s p) : ∀ (m j : Nat), j + m = 16 →
  Jx (fun s : List UInt8 × Int => J3Z p s.1 s.2) (JM p.LSN 8 ++ JM p.ID 4 ++ J55 (p.Cells.toList.take j), (j : Int)) = some (Jhd p, 0) := by
 have hd : ∀ c ∈ p.Cells.toList, c.Data.length ≤ 12 := by
  intro c hc
  obtain ⟨i, hi, rfl⟩ := List.getElem_of_mem hc
  have h16 : i < 16 := by simpa using hi
  have := (hp.cells i h16).1
  simpa using this
 have hlen : ∀ j, j ≤ 16 → (JM p.LSN 8 ++ JM p.ID 4 ++ J55 (p.Cells.toList.take j)).length = 12 + 13 * j := by
  intro j hj
  have hl : (J55 (p.Cells.toList.take j)).length = 13 * j := by
   rw [Jci fun c hc => hd c (List.mem_of_mem_take hc)]
   simp; omega
  simp only [List.length_append, JJ, hl]
 intro m
 induction m with
 | zero =>
  intro j hj
  obtain rfl : j = 16 := by omega
  refine J2K ?_
  have e1 : ¬ (((16 : Nat) : Nat) : Int) < 16 := by omega
  have e5 : p.Cells.toList.take 16 = p.Cells.toList := List.take_of_length_le (by simp)
  have h0 := hlen 16 (by omega)
  rw [e5] at h0 ⊢
  generalize hx : JM p.LSN 8 ++ JM p.ID 4 ++ J55 p.Cells.toList = x at h0
  have a0 : IntKind.wrap .i64 (244 - ((x.length : Nat) : Int)) = 24 := by rw [h0, wrap64 (by omega) (by omega)]; omega
  have a1 : J2o 24 = some (List.replicate 24 0) := JgI (n := 24) (by omega) (by omega)
  have a6 : x ++ List.replicate 24 0 = J3d p := by rw [← hx]; rfl
  have a2 : J2I x (List.replicate 24 0) = some (J3d p) := by rw [← a6]; exact J8W (by simp; omega)
  have a3 := Jq7 (J3d p) (by rw [Jd2 hp]; omega)
  have hc := Jk0 (J3d p)
  have a7 : IntKind.wrap .i64 ((crc (J3d p) : Nat) : Int) = ((crc (J3d p) : Nat) : Int) := wrap64 (by omega) (by omega)
  have a4 : J1z (J3d p) ((crc (J3d p) : Nat) : Int) 4 = some (J3d p ++ JM ((crc (J3d p) : Nat) : Int) 4) := JaP _ _ (k := 4) (by omega) (by omega) (by rw [Jd2 hp]; omega)
  have a5 : J1z (J3d p ++ JM ((crc (J3d p) : Nat) : Int) 4) p.LSN 8 = some (Jhd p) := JaP _ _ (k := 8) (by omega) (by omega) (by rw [List.length_append, Jd2 hp, JJ]; omega)
  simp only [J3Z, e1, decide_false, Bool.false_eq_true, if_false, J8n, a0, a1, a2, a3, a7, a4, a5, Option.bind_some, Option.map_some]
 | succ m ih =>
  intro j hj
  have hlt : j < 16 := by omega
  have e1 : ((j : Nat) : Int) < 16 := by omega
  have h0 := hlen j (by omega)
  have e3 : p.Cells.toList.take (j + 1) = p.Cells.toList.take j ++ [p.Cells[j]] := by
   rw [List.take_add_one, List.getElem?_eq_getElem (by simpa using hlt)]
   simp
  have hcl := (hp.cells j hlt).1
  have go : ∀ n : Int, n = (if (p.Cells[j]).Set then ((p.Cells[j]).Data.length : Int) else 255) →
    J5i (JM p.LSN 8 ++ JM p.ID 4 ++ J55 (p.Cells.toList.take j)) (j : Int) n p = some (.inl (JM p.LSN 8 ++ JM p.ID 4 ++ J55 (p.Cells.toList.take (j + 1)), ((j + 1 : Nat) : Int))) := by
   intro n hn
   rw [e3, Ji5, ← List.append_assoc]
   generalize JM p.LSN 8 ++ JM p.ID 4 ++ J55 (p.Cells.toList.take j) = x at h0
   have a0 : IntKind.wrap .i64 (12 - (((p.Cells[j]).Data.length : Nat) : Int)) = ((12 - (p.Cells[j]).Data.length : Nat) : Int) := by rw [wrap64 (by omega) (by omega)]; omega
   have a1 : J2o ((12 - (p.Cells[j]).Data.length : Nat) : Int) = some (List.replicate (12 - (p.Cells[j]).Data.length) 0) := by
    rw [JgI (by omega) (by omega), Int.toNat_natCast]
   have a2 : J1z x n 1 = some (x ++ JM n 1) := JaP _ _ (k := 1) (by omega) (by omega) (by omega)
   have a3 : J2I (p.Cells[j]).Data (List.replicate (12 - (p.Cells[j]).Data.length) 0) = some ((p.Cells[j]).Data ++ List.replicate (12 - (p.Cells[j]).Data.length) 0) := J8W (by simp; omega)
   have a4 : J2I (x ++ JM n 1) ((p.Cells[j]).Data ++ List.replicate (12 - (p.Cells[j]).Data.length) 0) = some (x ++ Jco p.Cells[j]) := by
    rw [J8W (by simp only [List.length_append, JJ, List.length_replicate]; omega)]
    simp only [Jco, hn, List.append_assoc]
   simp only [J5i, a2, J9N hlt, J5a _ j hlt, a0, a1, a3, a4, Option.bind_some, J8o, J2L (show j < 1000000 by omega)]
  refine (J4C (s' := (JM p.LSN 8 ++ JM p.ID 4 ++ J55 (p.Cells.toList.take (j + 1)), ((j + 1 : Nat) : Int))) ?_).trans (ih (j + 1) (by omega))
  simp only [J3Z, e1, decide_true, if_true, J9N hlt, J5a _ j hlt, Option.bind_some]
  cases hs : (p.Cells[j]).Set with
  | true => simp only [if_true]; exact go _ (by rw [hs]; rfl)
  | false => simp only [Bool.false_eq_true, if_false]; exact go _ (by rw [hs]; rfl)
theorem Jsb (p : T_api_Page) : ∃ e, J5T p = some e ∧ (e = 0 ↔ J6s p) ∧ (e ≠ 0 → J18 p = some ([], e)) := by
 obtain ⟨a, h1, h2⟩ := JqR p
 obtain ⟨b, h3, h4⟩ := JlS p
 unfold J5T
 simp only [Jpy, JrF, h1, h3, Option.bind_some]
 cases a with
 | false =>
  refine ⟨1, rfl, ⟨fun h => (by cases h), fun h => ?_⟩, fun _ => ?_⟩
  ·have := h2.2 ⟨h.id0, h.id1, h.lsn0, h.lsn1⟩
   cases this
  ·unfold J18
   simp only [h1, Option.bind_some, Bool.false_eq_true, if_false]
 | true =>
  obtain ⟨i0, i1, l0, l1⟩ := h2.1 rfl
  cases b with
  | false =>
   refine ⟨22, rfl, ⟨fun h => (by cases h), fun h => ?_⟩, fun _ => ?_⟩
   ·have := h4.2 h.cells
    cases this
   ·unfold J18
    simp only [h1, h3, Option.bind_some, if_true, Bool.false_eq_true, if_false]
  | true => exact ⟨0, rfl, ⟨fun _ => ⟨i0, i1, l0, l1, h4.1 rfl⟩, fun _ => rfl⟩, fun h => (h rfl).elim⟩
theorem JeH (p : T_api_Page) : J39 p = J18 p := by
 obtain ⟨e, h1, h2, h3⟩ := Jsb p
 unfold J39
 simp only [h1, Option.bind_some]
 by_cases he : e = 0
 ·have hp := h2.1 he
  have e0 : (e != 0) = false := by simp [he]
  have a1 : J1z [] p.LSN 8 = some (JM p.LSN 8) := JaP [] _ (k := 8) (by omega) (by omega) (by simp)
  have a2 : J1z (JM p.LSN 8) p.ID 4 = some (JM p.LSN 8 ++ JM p.ID 4) := JaP _ _ (k := 4) (by omega) (by omega) (by rw [JJ]; omega)
  simp only [e0, Bool.false_eq_true, if_false, a1, a2, Option.bind_some]
  rw [Jlt hp]
  have h := Jjw hp 16 0 (by omega)
  simp only [List.take_zero, J55, List.map_nil, List.flatten_nil, List.append_nil] at h
  exact h
 ·have e0 : (e != 0) = true := by simpa using he
  simp only [e0, if_true]
  rw [h3 he]
end Go.Am
end
section
namespace Go.Am
set_option maxRecDepth 16000
theorem JjJ (p : T_api_Page) : ∃ r, J18 p = some r := by
 obtain ⟨r, h, _⟩ := JjB p
 exact ⟨r, h⟩
theorem Jkv {s : List UInt8} {at_ k n : Int} (h : JY s at_ k = some n) : ∃ e, J16 s at_ k = some (n, e) := by
 unfold JY at h
 obtain ⟨r, h1, h2⟩ := Option.bind_eq_some_iff.1 h
 injection h2 with h2
 exact ⟨r.2, by rw [h1, ← h2]⟩
theorem Jvj (s : List UInt8) (hs : s.length ≤ 1000) {at_ k : Nat} (h1 : 1 ≤ k) (h8 : k ≤ 4) (ha : at_ ≤ 1000) : ∃ (n : Nat) (e : Int), J16 s at_ k = some ((n : Int), e) ∧ n < 2 ^ 32 := by
 have a1 : ¬ (k : Int) < 1 := by omega
 have a2 : ¬ (k : Int) > 8 := by omega
 have a3 : ¬ (at_ : Int) < 0 := by omega
 unfold J16
 simp only [a1, a2, a3, decide_false, Bool.false_eq_true, if_false]
 by_cases c1 : (at_ : Int) > (s.length : Int)
 ·exact ⟨0, 5, by simp only [c1, decide_true, if_true]; rfl, by decide⟩
 ·have e0 : IntKind.wrap .i64 ((s.length : Int) - at_) = (s.length : Int) - at_ := wrap64 (by omega) (by omega)
  by_cases c2 : (s.length : Int) - at_ < k
  ·exact ⟨0, 5, by simp only [c1, e0, c2, decide_false, decide_true, Bool.false_eq_true, if_false, if_true]; rfl, by decide⟩
  ·simp only [c1, e0, c2, decide_false, Bool.false_eq_true, if_false]
   obtain ⟨r, hr, n, e, rfl, hn⟩ := J14 (f := fun q : Int × Int => J0S s at_ k q.1 q.2) (fun q => ∃ j x : Nat, q.2 = j ∧ q.1 = x ∧ j ≤ k ∧ x < 2 ^ (8 * j)) (fun q => (k - q.2).toNat)
    (fun r => ∃ (n : Nat) (e : Int), r = ((n : Int), e) ∧ n < 2 ^ 32) (fun q ⟨j, x, hj, hx, hjk, hxl⟩ => by
    obtain ⟨x', j'⟩ := q
    simp only at hj hx
    subst hj hx
    by_cases hlt : j < k
    ·left
     have e1 : ((j : Nat) : Int) < (k : Int) := by omega
     have e2 : IntKind.wrap .i64 ((at_ : Int) + (j : Int)) = ((at_ + j : Nat) : Int) := by rw [wrap64 (by omega) (by omega)]; omega
     have e3 : IntKind.wrap .i64 (8 * (j : Int)) = ((8 * j : Nat) : Int) := by rw [wrap64 (by omega) (by omega)]; omega
     have hlt2 : at_ + j < s.length := by omega
     have hu : (s[at_ + j]).toNat < 256 := UInt8.toNat_lt _
     have e4 : Jgy .u64 (IntKind.wrap .u64 (((s[at_ + j]).toNat : Nat) : Int)) ((8 * j : Nat) : Int) = some (IntKind.wrap .u64 ((((s[at_ + j]).toNat : Nat) : Int) * 2 ^ (8 * j))) := by
      rw [JbA (by omega) (by omega)]
      simp only [Jgy]
      rw [if_neg (by omega)]
      have : min (((8 * j : Nat) : Int)).toNat IntKind.u64.bits = 8 * j := by
       simp only [Int.toNat_natCast]
       exact Nat.min_eq_left (by show 8 * j ≤ 64; omega)
      rw [this]
     have e5 := Jwb (x := x) (b := (s[at_ + j]).toNat) (j := j) (by omega) hxl hu
     refine ⟨(((x + (s[at_ + j]).toNat * 2 ^ (8 * j) : Nat) : Int), ((j + 1 : Nat) : Int)), ?_, ⟨j + 1, x + (s[at_ + j]).toNat * 2 ^ (8 * j), rfl, rfl, by omega, ?_⟩, by show ((k : Int) - ((j + 1 : Nat) : Int)).toNat < ((k : Int) - (j : Int)).toNat; omega⟩
     ·simp only [J0S, e1, decide_true, if_true, e2, J9x hlt2, Option.bind_some, e3, e4, e5, J2L (show j < 1000000 by omega)]
     ·have : (s[at_ + j]).toNat * 2 ^ (8 * j) + 2 ^ (8 * j) ≤ 256 * 2 ^ (8 * j) := by
       rw [← Nat.succ_mul]; exact Nat.mul_le_mul_right _ hu
      have e6 : 2 ^ (8 * (j + 1)) = 256 * 2 ^ (8 * j) := by rw [Nat.mul_add, Nat.pow_add, Nat.mul_comm]
      omega
    ·right
     obtain rfl : j = k := by omega
     have e1 : ¬ ((j : Nat) : Int) < (j : Int) := by omega
     have h32 : (2 : Nat) ^ (8 * j) ≤ 2 ^ 32 := Nat.pow_le_pow_right (by omega) (by omega)
     refine ⟨((x : Int), 0), ?_, x, 0, rfl, by omega⟩
     simp only [J0S, e1, decide_false, Bool.false_eq_true, if_false, J6V, Option.map_some]
     rw [wrap64 (by omega) (by omega)]) (0, 0) ⟨0, 0, rfl, rfl, by omega, by decide⟩
   exact ⟨n, e, hr, hn⟩
theorem bind_none {α β : Type} {o : Option α} {f : α → Option β} (h : Option.bind o f = none) (h2 : ∀ x, o = some x → f x ≠ none) : o = none := by
 cases o with
 | none => rfl
 | some x => exact (h2 x rfl h).elim
theorem Jte {s : List UInt8} (hs : s.length = 256) (p0 : T_api_Page) (q : Int × T_api_Page) (hq : ∃ j : Nat, q.1 = j ∧ j ≤ 16) {r : T_api_Page × Bool} (h : Jah s p0 q = some r) :
  ∃ r', Jav s p0 q = some r' ∧ (if r.2 = true then J2P s p0 r.1 = some r' else r' = (⟨0, 0, Vector.replicate 16 ⟨false, []⟩⟩, 4)) := by
 refine Jso (f := fun q : Int × T_api_Page => J1p s p0 q.1 q.2) (g := fun q : Int × T_api_Page => J2T s p0 q.1 q.2) (fun a b => a = b ∧ ∃ j : Nat, a.1 = j ∧ j ≤ 16)
  (fun r r' => if r.2 = true then J2P s p0 r.1 = some r' else r' = (⟨0, 0, Vector.replicate 16 ⟨false, []⟩⟩, 4)) ?_ ?_ ⟨rfl, hq⟩ h
 all_goals
  rintro ⟨j', p⟩ _ r ⟨rfl, j, hj, h16⟩ e
  simp only at hj
  subst hj
 ·by_cases hlt : j < 16
  ·have e1 : ((j : Nat) : Int) < 16 := by omega
   have e2 : IntKind.wrap .i64 (12 + IntKind.wrap .i64 ((j : Int) * 13)) = ((12 + 13 * j : Nat) : Int) := by
    rw [wrap64 (n := (j : Int) * 13) (by omega) (by omega), wrap64 (by omega) (by omega)]; omega
   have hu : (s[12 + 13 * j]'(by omega)).toNat < 256 := UInt8.toNat_lt _
   have e3 : JY s ((12 + 13 * j : Nat) : Int) 1 = some (((s[12 + 13 * j]'(by omega)).toNat : Nat) : Int) := by
    simp only [JY, Jio s (by omega) (show 12 + 13 * j < s.length by omega), Option.bind_some]
   have e4 := J9x (l := s) (k := 12 + 13 * j) (by omega)
   generalize hv : (s[12 + 13 * j]'(by omega)).toNat = v at e3 e4 hu
   have e5 : IntKind.wrap .i64 ((v : Nat) : Int) = ((v : Nat) : Int) := wrap64 (by omega) (by omega)
   have e6 := J2L (show j < 1000000 by omega)
   simp only [J1p, e1, decide_true, if_true, e2, e3, Option.bind_some, e6] at e
   simp only [J2T, e1, decide_true, if_true, e2, e4, Option.bind_some, e5, J5n, e6]
   split at e
   ·rename_i h255
    injection e with e; injection e with e; subst e
    exact ⟨_, by rw [if_pos h255], rfl, j + 1, rfl, by omega⟩
   ·rename_i h255
    rw [if_neg h255]
    split at e
    ·cases e
    ·rename_i h12
     rw [if_neg h12]
     simp only [Option.bind_eq_some_iff, Option.some.injEq, Sum.inl.injEq] at e
     obtain ⟨m, hm, u, hu1, y, hy, rfl⟩ := e
     exact ⟨_, by simp only [hm, hu1, hy, Option.bind_some], rfl, j + 1, rfl, by omega⟩
  ·have e1 : ¬ ((j : Nat) : Int) < 16 := by omega
   simp only [J1p, e1, decide_false, Bool.false_eq_true, if_false, J78, Option.map_some] at e
   cases e
 ·by_cases hlt : j < 16
  ·have e1 : ((j : Nat) : Int) < 16 := by omega
   have e2 : IntKind.wrap .i64 (12 + IntKind.wrap .i64 ((j : Int) * 13)) = ((12 + 13 * j : Nat) : Int) := by
    rw [wrap64 (n := (j : Int) * 13) (by omega) (by omega), wrap64 (by omega) (by omega)]; omega
   have hu : (s[12 + 13 * j]'(by omega)).toNat < 256 := UInt8.toNat_lt _
   have e3 : JY s ((12 + 13 * j : Nat) : Int) 1 = some (((s[12 + 13 * j]'(by omega)).toNat : Nat) : Int) := by
    simp only [JY, Jio s (by omega) (show 12 + 13 * j < s.length by omega), Option.bind_some]
   have e4 := J9x (l := s) (k := 12 + 13 * j) (by omega)
   generalize hv : (s[12 + 13 * j]'(by omega)).toNat = v at e3 e4 hu
   have e5 : IntKind.wrap .i64 ((v : Nat) : Int) = ((v : Nat) : Int) := wrap64 (by omega) (by omega)
   simp only [J1p, e1, decide_true, if_true, e2, e3, Option.bind_some] at e
   simp only [J2T, e1, decide_true, if_true, e2, e4, Option.bind_some, e5, J5n]
   split at e
   ·cases e
   ·rename_i h255
    rw [if_neg h255]
    split at e
    ·rename_i h12
     injection e with e; injection e with e; subst e
     exact ⟨_, by rw [if_pos h12], by simp⟩
    ·simp only [Option.bind_eq_some_iff, Option.some.injEq] at e
     obtain ⟨_, _, _, _, _, _, e⟩ := e
     cases e
  ·have e1 : ¬ ((j : Nat) : Int) < 16 := by omega
   simp only [J1p, e1, decide_false, Bool.false_eq_true, if_false, J78, Option.map_some, Option.some.injEq, Sum.inr.injEq] at e
   subst e
   have ht : ∃ r', J2P s p0 p = some r' := by
    unfold J2P
    rw [JeH]
    obtain ⟨x, hx⟩ := JjJ p
    rw [hx, Option.bind_some]
    split
    ·exact ⟨_, rfl⟩
    ·split <;> exact ⟨_, rfl⟩
   obtain ⟨r', hr'⟩ := ht
   exact ⟨r', by simp only [J2T, e1, decide_false, Bool.false_eq_true, if_false, hr', Option.map_some], by simpa using hr'⟩
theorem JqU (s : List UInt8) : J5j s = J1n s := by
 unfold J5j J1n
 by_cases hs : s.length = 256
 ·have e0 : (((s.length : Nat) : Int) != 256) = false := by rw [hs]; rfl
  have e3 : J2U s none (some 244) = some (s.take 244) := Jga s (b := 244) (by omega)
  have e1 : J2U s none (some 8) = some (s.take 8) := Jga s (b := 8) (by omega)
  have e2 : J2U s (some 248) none = some (s.drop 248) := JiW s (a := 248) (by omega)
  have g1 : J36 s 244 4 = J16 s 244 4 := Jl2 s 244 (k := 4) (by omega) (by omega)
  have g2 : J36 s 0 8 = J16 s 0 8 := Jl2 s 0 (k := 8) (by omega) (by omega)
  have g3 : J36 s 8 4 = J16 s 8 4 := Jl2 s 8 (k := 4) (by omega) (by omega)
  have c1 := Jq7 (s.take 244) (by simp; omega)
  have c2 := Jiy (s.take 244) (by simp; omega)
  have hc := Jk0 (s.take 244)
  obtain ⟨n1, x1, k1, l1⟩ := Jvj s (by omega) (at_ := 244) (k := 4) (by omega) (by omega) (by omega)
  have k1' : J16 s 244 4 = some ((n1 : Int), x1) := k1
  obtain ⟨n2, k2⟩ := JaU s (by omega) (at_ := 0) (k := 8) (by omega) (by omega) (by omega)
  have k2' : JY s 0 8 = some n2 := k2
  obtain ⟨x2, k2''⟩ := Jkv k2'
  obtain ⟨n3, k3⟩ := JaU s (by omega) (at_ := 8) (k := 4) (by omega) (by omega) (by omega)
  have k3' : JY s 8 4 = some n3 := k3
  obtain ⟨x3, k3''⟩ := Jkv k3'
  have m1 : JY s 244 4 = some (n1 : Int) := by simp only [JY, k1', Option.bind_some]
  have w1 : IntKind.wrap .u32 (n1 : Int) = (n1 : Int) := JbF n1 l1
  have w2 : IntKind.wrap .i64 ((crc (s.take 244) : Nat) : Int) = ((crc (s.take 244) : Nat) : Int) := wrap64 (by omega) (by omega)
  obtain ⟨p, hp⟩ := JoP s hs
  simp only [e0, Bool.false_eq_true, if_false, JlU, Ji8, Option.bind_some, e1, e2, e3, g1, g2, g3, c1, c2, k1', k2'', k3'', m1, w1, w2, hp]
  split
  ·rfl
  ·split
   ·split
    ·rfl
    ·have hp' : Jah s ⟨0, 0, Vector.replicate 16 ⟨false, []⟩⟩ (0, ⟨n3, n2, Vector.replicate 16 ⟨false, []⟩⟩) = some p := by
      have := hp
      unfold J6i at this
      simpa only [k3', k2', Option.bind_some] using this
     obtain ⟨r', hr1, hr2⟩ := Jte hs _ _ ⟨0, rfl, by omega⟩ hp'
     rw [hr1]
     obtain ⟨x, hx⟩ := JjJ p.1
     rw [hx, Option.bind_some]
     by_cases hb : p.2 = true
     ·rw [if_pos hb] at hr2 ⊢
      rw [← hr2]
      unfold J2P
      rw [JeH, hx, Option.bind_some]
     ·rw [if_neg hb] at hr2 ⊢
      rw [hr2]
   ·rfl
 ·have e0 : (((s.length : Nat) : Int) != 256) = true := by simp; omega
  simp only [e0, if_true]
theorem JeO (s : List UInt8) : ∃ r, J1n s = some r := by
 by_cases hs : s.length = 256
 ·obtain ⟨r, h, _⟩ := Jr7 s hs
  exact ⟨r, h⟩
 ·have e0 : (((s.length : Nat) : Int) != 256) = true := by simp; omega
  unfold J1n
  simp only [e0, if_true]
  exact ⟨_, rfl⟩
theorem JpM {s : List UInt8} {r : T_api_Page × Int} (h : J1n s = some r) (h0 : r.2 ≠ 0) : r.1 = ⟨0, 0, Vector.replicate 16 ⟨false, []⟩⟩ := by
 unfold J1n at h
 split at h
 ·injection h with h; subst h; rfl
 ·obtain ⟨_, _, h⟩ := Option.bind_eq_some_iff.1 h
  split at h
  ·injection h with h; subst h; rfl
  ·simp only [Option.bind_eq_some_iff] at h
   obtain ⟨_, _, _, _, h⟩ := h
   split at h
   ·simp only [Option.bind_eq_some_iff] at h
    obtain ⟨_, _, _, _, _, _, h⟩ := h
    split at h
    ·injection h with h; subst h; rfl
    ·simp only [Option.bind_eq_some_iff] at h
     obtain ⟨_, _, _, _, h⟩ := h
     split at h
     ·split at h
      ·injection h with h; subst h; rfl
      ·split at h
       ·injection h with h; subst h; exact (h0 rfl).elim
       ·injection h with h; subst h; rfl
     ·injection h with h; subst h; rfl
   ·injection h with h; subst h; rfl
theorem JnW (s : List UInt8) (k : Int) : J1s s k = J0I s k := by
 unfold J1s J0I J1I
 obtain ⟨r, hr⟩ := JeO s
 simp only [JqU, hr, Option.bind_some]
 by_cases h1 : k < 0
 ·have h2 : ¬ k ≥ 0 := by omega
  simp only [h1, h2, decide_true, decide_false, if_true, Bool.false_eq_true, if_false, Option.bind_some]
 ·have h2 : k ≥ 0 := by omega
  by_cases h3 : k ≥ 64
  ·have h4 : ¬ k < 64 := by omega
   simp only [h1, h2, h3, h4, decide_true, decide_false, if_true, Bool.false_eq_true, if_false, Option.bind_some]
  ·have h4 : k < 64 := by omega
   simp only [h1, h2, h3, h4, decide_true, decide_false, if_true, Bool.false_eq_true, if_false, Option.bind_some, Jv3]
   split
   ·rfl
   ·by_cases h0 : r.2 = 0
    ·have d1 : (r.2 == 0) = true := by simpa using h0
     have d2 : (r.2 != 0) = false := by simp [h0]
     simp only [d1, d2, if_true, Bool.false_eq_true, if_false]
     rw [h0]
    ·have d1 : (r.2 == 0) = false := by simpa using h0
     have d2 : (r.2 != 0) = true := by simpa using h0
     simp only [d1, d2, if_true, Bool.false_eq_true, if_false]
     rw [← JpM hr h0]
theorem Jgc (s : List UInt8) (k : Int) : ∃ r, J0I s k = some r := by
 unfold J0I J1I
 obtain ⟨r, hr⟩ := JeO s
 simp only [hr, Option.bind_some]
 by_cases h1 : k ≥ 0
 ·simp only [h1, decide_true, if_true, Option.bind_some]
  split
  ·split
   ·exact ⟨_, rfl⟩
   ·split
    ·exact ⟨_, rfl⟩
    ·split <;> exact ⟨_, rfl⟩
  ·exact ⟨_, rfl⟩
 ·simp only [h1, decide_false, Bool.false_eq_true, if_false, Option.bind_some]
  exact ⟨_, rfl⟩
end Go.Am
end
section
namespace Go.Am
set_option maxRecDepth 16000
theorem Ju7 {b : T_pagemenddraw_Codes} (hb : J0c b) {n : Int} (h1 : 1 ≤ n) (h2 : n ≤ 65536) : ∃ r b', Jp b n = some (r, b') ∧ J0c b' ∧ 0 ≤ r ∧ r < n := by
 by_cases hn : n ≤ 256
 ·exact J3c hb h1 hn
 ·by_cases hc : b.at_ ≥ (b.l_.length : Int)
  ·refine ⟨0, b, ?_, hb, by omega, by omega⟩
   show J0G (11 + 1) b n = _
   simp only [J0G, J2J, hc, decide_true, if_true]
  ·obtain ⟨ha, hb1, hl, hx⟩ := hb
   obtain ⟨k, hk⟩ : ∃ k : Nat, b.at_ = (k : Int) := ⟨b.at_.toNat, by omega⟩
   have hk2 : k < b.l_.length := by omega
   have hy := hx _ (List.getElem_mem hk2)
   have e1 : ¬ n < 1 := by omega
   have e2 : n > 256 := by omega
   have e3 : idx b.l_ b.at_ = some b.l_[k] := by rw [hk, J2N, List.getElem?_eq_getElem hk2]
   have hb' : J0c ⟨b.l_, b.at_ + 1⟩ := ⟨by show 0 ≤ b.at_ + 1; omega, by show b.at_ + 1 ≤ (b.l_.length : Int); omega, hl, hx⟩
   obtain ⟨r, b2, e4, hb2, hr0, hr1⟩ := Jk6 hb' (n := 256) (by omega) (by omega) 10
   have e5 : IntKind.wrap .i64 (b.at_ + 1) = b.at_ + 1 := wrap64 (by omega) (by omega)
   have e6 : IntKind.wrap .i64 (IntKind.wrap .i64 (256 * IntKind.wrap .i64 b.l_[k]) + r) = 256 * b.l_[k] + r := by
    rw [wrap64 (n := b.l_[k]) (by omega) (by omega), wrap64 (n := 256 * b.l_[k]) (by omega) (by omega), wrap64 (by omega) (by omega)]
   have e7 : ¬ n = 0 := by omega
   refine ⟨(256 * b.l_[k] + r).tmod n, b2, ?_, hb2, Int.tmod_nonneg _ (by omega), Int.tmod_lt_of_pos _ (by omega)⟩
   show J0G (11 + 1) b n = _
   have e8 : J0G 11 ⟨b.l_, b.at_ + 1⟩ 256 = some (r, b2) := e4
   rw [show J0G (11 + 1) = J2J (J0G 11) from rfl]
   simp only [J2J, hc, e1, e2, e3, e5, e6, e8, decide_true, decide_false, if_true, Bool.false_eq_true, if_false, Option.bind_some, JkO, e7]
theorem JuK {l : List Int} (h : List.length l ≤ maxLen ∧ ∀ x ∈ l, 0 ≤ x ∧ x ≤ 255) {n : Nat} (hn : n ≤ 1000) : ∃ b, J8l l (n : Int) = some b ∧ J0c b := Jwr h.2 hn
theorem Jsn {p : T_api_Page} (hp : J6s p) : (Jhd p).length = 256 := by
 simp [Jhd, Jd2 hp, JJ]
theorem JtO {b : T_pagemenddraw_Codes} (hb : J0c b) : ∃ t b', J32 b = some (t, b') ∧ J0c b' ∧ t.length = 256 := by
 obtain ⟨r, b1, e1, hb1, _, _⟩ := J3c hb (n := 256) (by omega) (by omega)
 obtain ⟨z, b2, e2, hb2, z0, z1⟩ := J3c hb1 (n := 256) (by omega) (by omega)
 obtain ⟨y, b3, e3, hb3, _, _⟩ := J3c hb2 (n := 256) (by omega) (by omega)
 obtain ⟨k, rfl⟩ : ∃ k : Nat, z = (k : Int) := ⟨z.toNat, by omega⟩
 have e0 : mkS 1 256 256 (0 : Int) = some (List.replicate 256 0) := by
  unfold mkS
  rw [if_pos (by omega)]
  rfl
 unfold J32
 simp only [e0, e1, Option.bind_some]
 have hL : (List.replicate 256 (0 : Int)).length = 256 := List.length_replicate
 generalize List.replicate 256 (0 : Int) = L at hL
 obtain ⟨o, ho, hq⟩ := J14 (f := fun s : Int × List Int => J2h (IntKind.wrap .u8 r) b1 s.1 s.2) (fun s => (∃ j : Nat, s.1 = j ∧ j ≤ 256) ∧ s.2.length = 256) (fun s => (256 - s.1).toNat) (fun r => J0c r.2 ∧ r.1.length = 256) (fun s ⟨⟨j, hj, h4⟩, hl⟩ => by
  obtain ⟨j', l⟩ := s
  simp only at hj hl
  subst hj
  by_cases hlt : j < 256
  ·left
   have c1 : ((j : Nat) : Int) < (l.length : Int) := by omega
   have c2 : idx l (j : Int) = some (l[j]'(by omega)) := by rw [J2N, List.getElem?_eq_getElem]
   exact ⟨⟨((j + 1 : Nat) : Int), l.set j (IntKind.wrap .u8 r)⟩, by simp only [J2h, c1, decide_true, if_true, c2, Option.bind_some, Int.toNat_natCast, J2L (show j < 1000000 by omega)], ⟨⟨j + 1, rfl, by omega⟩, by show (l.set j _).length = 256; simp [hl]⟩, by show ((256 : Int) - ((j + 1 : Nat) : Int)).toNat < ((256 : Int) - (j : Int)).toNat; omega⟩
  ·right
   have c1 : ¬ ((j : Nat) : Int) < (l.length : Int) := by omega
   have c2 : idx l (k : Int) = some (l[k]'(by omega)) := by rw [J2N, List.getElem?_eq_getElem]
   exact ⟨(toStr (l.set k (IntKind.wrap .u8 y)), b3), by simp only [J2h, c1, decide_false, Bool.false_eq_true, if_false, J69, e2, e3, c2, Option.bind_some, Option.map_some, Int.toNat_natCast], hb3, by simp [toStr, hl]⟩) (0, L) ⟨⟨0, rfl, by omega⟩, hL⟩
 exact ⟨o.1, o.2, ho, hq.1, hq.2⟩
end Go.Am
end
section
namespace Go.Am
set_option maxRecDepth 16000
def hb (c : Nat) : Nat := if c < 2147483648 then 2 * c else 2 * (c ^^^ P32) + 1
def hN : Nat → Nat → Nat
 | 0, c => c
 | j + 1, c => hN j (hb c)
end Go.Am
end
section
namespace Go.Am
set_option maxRecDepth 16000
theorem Jlu {α ρ : Type} {f : Int → Option (Int ⊕ ρ)} {l : List α} (p : α → Bool) (hit : Nat → ρ) (out : ρ) (hl : l.length < 1000000)
  (h1 : ∀ (k : Nat) (h : k < l.length), f (k : Int) = some (if p l[k] = true then .inr (hit k) else .inl ((k + 1 : Nat) : Int))) (h2 : f (l.length : Int) = some (.inr out)) :
  Jx f 0 = some (match l.findIdx? p with
   | some k => hit k
   | none => out) := by
 have key : ∀ (n k : Nat), k + n = l.length → Jx f (k : Int) = some (match (l.drop k).findIdx? p with
   | some j => hit (k + j)
   | none => out) := by
  intro n
  induction n with
  | zero =>
   intro k hk
   obtain rfl : k = l.length := by omega
   rw [J2K h2]
   simp
  | succ n ih =>
   intro k hk
   have hlt : k < l.length := by omega
   have e := h1 k hlt
   rw [List.drop_eq_getElem_cons hlt, List.findIdx?_cons]
   by_cases hp : p l[k] = true
   ·rw [if_pos hp] at e
    rw [J2K e, if_pos hp]
    rfl
   ·rw [if_neg hp] at e
    rw [J4C e, ih (k + 1) (by omega), if_neg hp]
    cases (l.drop (k + 1)).findIdx? p with
    | none => rfl
    | some j => simp only [Option.map_some]; congr 2; omega
 have := key l.length 0 (by omega)
 simpa using this
theorem JtN {α ρ : Type} {f : Int → Option (Int ⊕ ρ)} {l : List α} (q : α → Bool) (bad out : ρ) (hl : l.length < 1000000)
  (h1 : ∀ (k : Nat) (h : k < l.length), f (k : Int) = some (if q l[k] = true then .inl ((k + 1 : Nat) : Int) else .inr bad)) (h2 : f (l.length : Int) = some (.inr out)) :
  Jx f 0 = some (if l.all q = true then out else bad) := by
 have := Jlu (f := f) (l := l) (fun x => !q x) (fun _ => bad) out hl (fun k h => by
  rw [h1 k h]
  cases q l[k] <;> rfl) h2
 rw [this]
 cases h : l.findIdx? (fun x => !q x) with
 | none =>
  rw [List.findIdx?_eq_none_iff] at h
  have : l.all q = true := List.all_eq_true.2 fun x hx => by simpa using h x hx
  rw [this]; rfl
 | some k =>
  obtain ⟨hk, h3, _⟩ := List.findIdx?_eq_some_iff_getElem.1 h
  have : l.all q ≠ true := fun h4 => by
   have := List.all_eq_true.1 h4 _ (List.getElem_mem hk)
   rw [this] at h3; cases h3
  rw [if_neg this]
end Go.Am
end
section
namespace Go.Am
set_option maxRecDepth 16000
def Tot {ρ : Type} (o : Option ρ) (Q : ρ → Prop) : Prop := ∃ r, o = some r ∧ Q r
theorem Tot.bind {α ρ : Type} {o : Option α} {f : α → Option ρ} {Q : α → Prop} {R : ρ → Prop} (h : Tot o Q) (h2 : ∀ r, Q r → Tot (f r) R) : Tot (o.bind f) R := by
 obtain ⟨r, rfl, hq⟩ := h
 exact h2 r hq
theorem Tot.some {ρ : Type} {r : ρ} {Q : ρ → Prop} (h : Q r) : Tot (some r) Q := ⟨r, rfl, h⟩
theorem Tot.eq {α ρ : Type} {o : Option α} {f : α → Option ρ} {v : α} {R : ρ → Prop} (h : o = Option.some v) (h2 : Tot (f v) R) : Tot (o.bind f) R := by
 subst h; exact h2
theorem Tot.ite {ρ : Type} {c : Bool} {a b : Option ρ} {Q : ρ → Prop} (h1 : c = true → Tot a Q) (h2 : c = false → Tot b Q) : Tot (if c = true then a else b) Q := by
 cases c with
 | true => exact h1 rfl
 | false => exact h2 rfl
theorem Tot.both {ρ : Type} {c : Bool} {a b : Option ρ} {Q : ρ → Prop} (h1 : Tot a Q) (h2 : Tot b Q) : Tot (if c = true then a else b) Q := .ite (fun _ => h1) fun _ => h2
theorem Tot.mono {ρ : Type} {o : Option ρ} {Q R : ρ → Prop} (h : Tot o Q) (h2 : ∀ r, Q r → R r) : Tot o R := by
 obtain ⟨r, e, hq⟩ := h
 exact ⟨r, e, h2 r hq⟩
theorem Tot.map {α ρ : Type} {o : Option α} {f : α → ρ} {Q : α → Prop} {R : ρ → Prop} (h : Tot o Q) (h2 : ∀ r, Q r → R (f r)) : Tot (Option.map f o) R := by
 obtain ⟨r, rfl, hq⟩ := h
 exact ⟨f r, rfl, h2 r hq⟩
abbrev Drw {α : Type} (o : Option (α × T_pagemenddraw_Codes)) (Q : α → Prop) : Prop := Tot o fun r => J0c r.2 ∧ Q r.1
theorem Jux {α : Type} {o : Option (α × T_pagemenddraw_Codes)} (h : ∃ x b', o = some (x, b') ∧ J0c b') : Drw o fun _ => True := by
 obtain ⟨x, b', rfl, h1⟩ := h
 exact ⟨_, rfl, h1, trivial⟩
section
variable {b : T_pagemenddraw_Codes} (hb : J0c b)
include hb
theorem J7W {n : Int} (h1 : 1 ≤ n) (h2 : n ≤ 256) : Drw (Jp b n) fun r => 0 ≤ r ∧ r < n := by
 obtain ⟨r, b', e, h3, h4, h5⟩ := J3c hb h1 h2
 exact ⟨_, e, h3, h4, h5⟩
theorem JuN {n : Int} (h1 : 1 ≤ n) (h2 : n ≤ 65536) : Drw (Jp b n) fun r => 0 ≤ r ∧ r < n := by
 obtain ⟨r, b', e, h3, h4, h5⟩ := Ju7 hb h1 h2
 exact ⟨_, e, h3, h4, h5⟩
theorem Juo : Drw (J2W b) fun _ => True := Jux (JsV hb)
theorem Jtq {s : List UInt8} (hs : s.length ≤ 60000) : Drw (J3B b s) fun t => t.length ≤ s.length + 1 := by
 unfold J3B
 by_cases h0 : s.length = 0
 ·have d1 : (((s.length : Nat) : Int) == 0) = true := by rw [h0]; rfl
  rw [d1, if_pos rfl]
  exact .bind (J7W hb (by omega) (by omega)) fun r ⟨h, _⟩ => .some ⟨h, by simp [toStr]⟩
 ·have d1 : (((s.length : Nat) : Int) == 0) = false := by simpa using h0
  rw [d1, if_neg (by decide)]
  refine .bind (JuN hb (by omega) (by omega)) fun r1 ⟨h1, q1⟩ => ?_
  obtain ⟨r, b1⟩ := r1
  simp only at h1 q1 ⊢
  obtain ⟨k, rfl⟩ : ∃ k : Nat, r = (k : Int) := ⟨r.toNat, by omega⟩
  have hk : k < s.length := by omega
  have f1 := Jga s (b := k) (by omega)
  have f2 : J2U s (some (IntKind.wrap .i64 ((k : Int) + 1))) none = some (s.drop (k + 1)) := by
   rw [J2L (by omega)]; exact JiW s (a := k + 1) (by omega)
  have f3 : J2I (s.take k) (s.drop (k + 1)) = some (s.take k ++ s.drop (k + 1)) := J8W (by simp only [List.length_take, List.length_drop]; omega)
  have f4 : ∀ v : Int, J2I s (toStr [v]) = some (s ++ toStr [v]) := fun v => J8W (by simp [toStr]; omega)
  have f5 : ∀ v : Int, J2I (s.take k) (toStr [v]) = some (s.take k ++ toStr [v]) := fun v => J8W (by simp [toStr]; omega)
  have f6 : ∀ v : Int, J2I (s.take k ++ toStr [v]) (s.drop (k + 1)) = some (s.take k ++ toStr [v] ++ s.drop (k + 1)) := fun v => J8W (by simp [toStr]; omega)
  simp only [f1, f2, f3, f4, f5, f6, J9x hk, Option.bind_some]
  refine .bind (J7W h1 (by omega) (by omega)) fun r2 ⟨h2, q2⟩ => .both ?_ (.both ?_ ?_)
  ·exact .some ⟨h2, by simp; omega⟩
  ·exact .bind (J7W h2 (by omega) (by omega)) fun r3 ⟨h3, _⟩ => .some ⟨h3, by simp [toStr]⟩
  ·exact .bind (J7W h2 (by omega) (by omega)) fun r3 ⟨h3, _⟩ => .some ⟨h3, by simp [toStr]; omega⟩
end
end Go.Am
end
section
namespace Go.Am
set_option maxRecDepth 16000
set_option linter.unusedSimpArgs false
set_option linter.unusedVariables false
noncomputable def idn (s : List UInt8) (k : Int) : T_api_Page × Int := Classical.choose (Jgc s k)
theorem Jba (s : List UInt8) (k : Int) : J0I s k = some (idn s k) := Classical.choose_spec (Jgc s k)
theorem Jea (s : List UInt8) (k : Int) : J1s s k = some (idn s k) := by rw [JnW, Jba]
theorem Jt3 (k : Int) : J1I k = some (decide (0 ≤ k) && decide (k < 64)) := by
 unfold J1I
 by_cases h : k ≥ 0 <;> by_cases h2 : k < 64 <;> simp [h, h2]
 all_goals omega
theorem JlC {s : List UInt8} {k : Int} (h : (idn s k).2 = 0) : 0 ≤ k ∧ k < 64 ∧ s.length = 256 := by
 have e := Jba s k
 unfold J0I at e
 rw [Jt3, Option.bind_some] at e
 by_cases hk : 0 ≤ k ∧ k < 64
 ·refine ⟨hk.1, hk.2, ?_⟩
  obtain ⟨r, hr⟩ := JeO s
  rw [if_pos (by simp [hk]), hr, Option.bind_some] at e
  by_cases hl : s.length = 256
  ·exact hl
  ·unfold J1n at hr
   rw [if_pos (by simp; omega)] at hr
   injection hr with hr
   subst hr
   simp at e
   rw [← e] at h
   cases h
 ·rw [if_neg (by simp; omega)] at e
  injection e with e
  rw [← e] at h
  cases h
noncomputable def J9z (n : Int) (c : T_api_Copy) : Bool := decide (c.Page < n) && ((idn c.Data c.Page).2 == 0 && (idn c.Data c.Page).1.LSN == c.LSN)
def Jg6 (l : List T_api_Copy) (k : Nat) : Bool := k == 0 || match l[k - 1]?, l[k]? with
 | some a, some b => decide (a.Page < b.Page)
 | _, _ => true
noncomputable def J9D (n : Int) (l : List T_api_Copy) : Bool := (List.range l.length).all fun k => Jg6 l k && match l[k]? with
 | some c => J9z n c
 | none => true
noncomputable def J6F (x : T_api_Image) : Bool := decide (1 ≤ x.ID) && (decide (x.ID ≤ 1073741824) && (decide (1 ≤ x.Pages) && (decide (x.Pages ≤ 64) && J9D x.Pages x.Copies)))
theorem JeG {ρ : Type} {f : Int → Option (Int ⊕ ρ)} {n : Nat} (q : Nat → Bool) (bad out : ρ) (hl : n < 1000000)
  (h1 : ∀ (k : Nat), k < n → f (k : Int) = some (if q k = true then .inl ((k + 1 : Nat) : Int) else .inr bad)) (h2 : f (n : Int) = some (.inr out)) :
  Jx f 0 = some (if (List.range n).all q = true then out else bad) := by
 have := JtN (f := f) (l := List.range n) q bad out (by simpa using hl) (fun k h => by
  simp only [List.length_range] at h
  rw [h1 k h, List.getElem_range]) (by simpa using h2)
 exact this
theorem Ji3 (a n : Int) (l : List T_api_Copy) (k : Nat) (hk : k < l.length) (hl : l.length < 1000000) :
  J3v (l.length : Int) ⟨a, n, l⟩ (k : Int) = some (if (Jg6 l k && match l[k]? with
   | some c => J9z n c
   | none => true) = true then .inl ((k + 1 : Nat) : Int) else .inr false) := by
 have e1 : idx l (k : Int) = some l[k] := by rw [J2N, List.getElem?_eq_getElem hk]
 unfold J3v
 rw [if_pos (by simp; omega)]
 simp only [e1, Option.bind_some, Jba, List.getElem?_eq_getElem hk, J9z, Jg6]
 have e3 : IntKind.wrap .i64 ((k : Int) + 1) = ((k + 1 : Nat) : Int) := by rw [wrap64 (by omega) (by omega)]; omega
 rw [e3]
 by_cases hp : l[k].Page ≥ n
 ·simp [hp, show ¬ l[k].Page < n by omega]
 ·by_cases h0 : k = 0
  ·subst h0
   simp only [hp, show l[0].Page < n by omega, decide_true, decide_false, Bool.false_eq_true, if_false, Bool.true_and]
   simp only [Int.natCast_zero, gt_iff_lt, Int.lt_irrefl, decide_false, Bool.false_eq_true, if_false, beq_self_eq_true, Bool.true_or, Bool.true_and]
   cases h5 : ((idn l[0].Data l[0].Page).2 == 0) <;> cases h6 : ((idn l[0].Data l[0].Page).1.LSN == l[0].LSN) <;> simp [bne, h5, h6]
  ·have e2 : idx l (IntKind.wrap .i64 ((k : Int) - 1)) = some l[k - 1] := by
    rw [wrap64 (by omega) (by omega), show (k : Int) - 1 = ((k - 1 : Nat) : Int) by omega, J2N, List.getElem?_eq_getElem (by omega)]
   simp only [e2, Option.bind_some, List.getElem?_eq_getElem (show k - 1 < l.length by omega)]
   simp only [hp, show l[k].Page < n by omega, decide_true, decide_false, Bool.false_eq_true, if_false, Bool.true_and, show (k : Int) > 0 by omega, if_true, show (k == 0) = false by simpa using h0, Bool.false_or]
   by_cases h7 : l[k - 1].Page ≥ l[k].Page
   ·simp [h7, show ¬ l[k - 1].Page < l[k].Page by omega]
   ·simp only [h7, show l[k - 1].Page < l[k].Page by omega, decide_true, decide_false, Bool.false_eq_true, if_false, Bool.true_and]
    cases h5 : ((idn l[k].Data l[k].Page).2 == 0) <;> cases h6 : ((idn l[k].Data l[k].Page).1.LSN == l[k].LSN) <;> simp [bne, h5, h6]
theorem JaF {n : Int} {c : T_api_Copy} (h : J9z n c = true) : 0 ≤ c.Page ∧ c.Page < 64 ∧ c.Page < n ∧ (idn c.Data c.Page).2 = 0 ∧ (idn c.Data c.Page).1.LSN = c.LSN := by
 simp only [J9z, Bool.and_eq_true, decide_eq_true_eq, beq_iff_eq] at h
 have := JlC h.2.1
 exact ⟨this.1, this.2.1, h.1, h.2.1, h.2.2⟩
theorem Jor (a n : Int) (l : List T_api_Copy) (k : Nat) (hk : k < l.length) (hl : l.length < 1000000) :
  J3w ⟨a, n, l⟩ (k : Int) = some (if (Jg6 l k && match l[k]? with
   | some c => J9z n c
   | none => true) = true then .inl ((k + 1 : Nat) : Int) else .inr false) := by
 have e1 : idx l (k : Int) = some l[k] := by rw [J2N, List.getElem?_eq_getElem hk]
 by_cases hneg : l[k].Page < 0
 ·have hf : J9z n l[k] = false := by
   cases hc : J9z n l[k] with
   | false => rfl
   | true => have := JaF hc; omega
  unfold J3w
  rw [if_pos (by simp; omega)]
  simp only [e1, Option.bind_some, List.getElem?_eq_getElem hk, hf, hneg, decide_true, if_true, Bool.and_false, Bool.false_eq_true, if_false]
 ·rw [← Ji3 a n l k hk hl]
  unfold J3w J3v
  simp only [e1, Option.bind_some, hneg, decide_false, Bool.false_eq_true, if_false, Jea, Jba]
  rfl
theorem Jg8 (b : Bool) : (if b = true then true else false) = b := by cases b <;> rfl
theorem Jj4 (a n : Int) (l : List T_api_Copy) (hl : l.length < 1000000) : J99 (l.length : Int) ⟨a, n, l⟩ 0 = some (J9D n l) := by
 unfold J99
 rw [JeG (n := l.length) (fun k => Jg6 l k && match l[k]? with
   | some c => J9z n c
   | none => true) false true hl (fun k h => Ji3 a n l k h hl) (by
  unfold J3v
  rw [if_neg (by simp)]
  rfl)]
 rw [Jg8]
 rfl
theorem JkB (a n : Int) (l : List T_api_Copy) (hl : l.length < 1000000) : J95 ⟨a, n, l⟩ 0 = some (J9D n l) := by
 unfold J95
 rw [JeG (n := l.length) (fun k => Jg6 l k && match l[k]? with
   | some c => J9z n c
   | none => true) false true hl (fun k h => Jor a n l k h hl) (by
  unfold J3w
  rw [if_neg (by simp)]
  rfl)]
 rw [Jg8]
 rfl
theorem JbG {n : Int} {l : List T_api_Copy} : J9D n l = true ↔ (∀ c ∈ l, J9z n c = true) ∧ ∀ (k : Nat) (h : k + 1 < l.length), l[k].Page < l[k + 1].Page := by
 unfold J9D
 simp only [List.all_eq_true, List.mem_range, Bool.and_eq_true]
 constructor
 ·intro h
  refine ⟨fun c hc => ?_, fun k hk => ?_⟩
  ·obtain ⟨k, hk⟩ := List.getElem?_of_mem hc
   have hlt : k < l.length := by
    rcases Nat.lt_or_ge k l.length with h' | h'
    ·exact h'
    ·simp [List.getElem?_eq_none h'] at hk
   have := (h k hlt).2
   rw [hk] at this
   exact this
  ·have := (h (k + 1) hk).1
   simp only [Jg6, Nat.add_sub_cancel, List.getElem?_eq_getElem hk, List.getElem?_eq_getElem (show k < l.length by omega)] at this
   simpa using this
 ·rintro ⟨h1, h2⟩ k hk
  refine ⟨?_, ?_⟩
  ·unfold Jg6
   by_cases h0 : k = 0
   ·simp [h0]
   ·obtain ⟨j, rfl⟩ : ∃ j, k = j + 1 := ⟨k - 1, by omega⟩
    simp only [Nat.add_sub_cancel, List.getElem?_eq_getElem hk, List.getElem?_eq_getElem (show j < l.length by omega)]
    simpa using h2 j hk
  ·rw [List.getElem?_eq_getElem hk]
   exact h1 _ (List.getElem_mem hk)
theorem JrM {n : Int} {l : List T_api_Copy} (h : J9D n l = true) : ∀ (k : Nat) (hk : k < l.length), (k : Int) ≤ l[k].Page := by
 obtain ⟨h1, h2⟩ := JbG.1 h
 intro k
 induction k with
 | zero => intro hk; have := (JaF (h1 _ (List.getElem_mem hk))).1; omega
 | succ k ih => intro hk; have := ih (by omega); have := h2 k hk; omega
theorem Jk4 {n : Int} {l : List T_api_Copy} (h : J9D n l = true) (hn : 0 ≤ n) : (l.length : Int) ≤ n := by
 by_cases h0 : l.length = 0
 ·omega
 ·have h1 := JrM h (l.length - 1) (by omega)
  have h2 := (JaF ((JbG.1 h).1 _ (List.getElem_mem (show l.length - 1 < l.length by omega)))).2.2.1
  omega
theorem J2z (x : T_api_Image) (hl : x.Copies.length < 1000000) : J0u x = some (J6F x) := by
 obtain ⟨a, n, l⟩ := x
 unfold J0u J6F
 dsimp only at hl ⊢
 by_cases h1 : a < 1
 ·simp [h1, show ¬ 1 ≤ a by omega]
 by_cases h2 : a > 1073741824
 ·simp [h1, h2, show ¬ a ≤ 1073741824 by omega]
 by_cases h3 : n < 1
 ·simp [h1, h2, h3, show ¬ 1 ≤ n by omega]
 by_cases h4 : n > 64
 ·simp [h1, h2, h3, h4, show ¬ n ≤ 64 by omega]
 by_cases h5 : (l.length : Int) > n
 ·have : J9D n l = false := by
   cases hc : J9D n l with
   | false => rfl
   | true => have := Jk4 hc (by omega); omega
  simp [h1, h2, h3, h4, h5, this]
 ·simp only [h1, h2, h3, h4, h5, decide_false, Bool.false_eq_true, if_false, Jj4 a n l hl]
  simp [show 1 ≤ a by omega, show a ≤ 1073741824 by omega, show 1 ≤ n by omega, show n ≤ 64 by omega]
theorem J5p (x : T_api_Image) (hl : x.Copies.length < 1000000) : J1Z x = some (J6F x) := by
 obtain ⟨a, n, l⟩ := x
 unfold J1Z J6F
 dsimp only at hl ⊢
 by_cases h1 : a < 1
 ·simp [h1, show ¬ 1 ≤ a by omega]
 by_cases h2 : a > 1073741824
 ·simp [h1, h2, show ¬ a ≤ 1073741824 by omega]
 by_cases h3 : n < 1
 ·simp [h1, h2, h3, show ¬ 1 ≤ n by omega]
 by_cases h4 : n > 64
 ·simp [h1, h2, h3, h4, show ¬ n ≤ 64 by omega]
 ·simp only [h1, h2, h3, h4, decide_false, Bool.false_eq_true, if_false, JkB a n l hl]
  simp [show 1 ≤ a by omega, show a ≤ 1073741824 by omega, show 1 ≤ n by omega, show n ≤ 64 by omega]
structure J2O (x : T_api_Image) : Prop where
 id1 : 1 ≤ x.ID
 id2 : x.ID ≤ 1073741824
 p1 : 1 ≤ x.Pages
 p2 : x.Pages ≤ 64
 copies : ∀ c ∈ x.Copies, J9z x.Pages c = true
 asc : ∀ (k : Nat) (h : k + 1 < x.Copies.length), x.Copies[k].Page < x.Copies[k + 1].Page
theorem J5J {x : T_api_Image} : J6F x = true ↔ J2O x := by
 unfold J6F
 simp only [Bool.and_eq_true, decide_eq_true_eq, JbG]
 exact ⟨fun ⟨a, b, c, d, e, f⟩ => ⟨a, b, c, d, e, f⟩, fun h => ⟨h.1, h.2, h.3, h.4, h.5, h.6⟩⟩
theorem J2O.len {x : T_api_Image} (h : J2O x) : (x.Copies.length : Int) ≤ x.Pages := Jk4 (JbG.2 ⟨h.copies, h.asc⟩) (by have := h.p1; omega)
end Go.Am
end
section
namespace Go.Am
set_option maxRecDepth 16000
set_option linter.unusedSimpArgs false
set_option linter.unusedVariables false
theorem Jxn (x : Nat) : J8X .u64 (x : Int) 1 = some ((x / 2 : Nat) : Int) := by
 show some ((x : Int).fdiv 2) = _
 rw [Int.fdiv_eq_ediv_of_nonneg _ (by omega)]; simp
def Asc (l : List T_api_Copy) : Prop := ∀ (i j : Nat) (h : j < l.length) (hij : i < j), l[i].Page < l[j].Page
theorem Jx0 {l : List T_api_Copy} (h : ∀ (k : Nat) (h : k + 1 < l.length), l[k].Page < l[k + 1].Page) : Asc l := by
 intro i j hj hij
 induction j with
 | zero => omega
 | succ j ih =>
  rcases Nat.lt_or_ge i j with h1 | h1
  ·have := ih (by omega) h1
   have := h j hj
   omega
  ·obtain rfl : i = j := by omega
   exact h i hj
theorem J2O.ord {x : T_api_Image} (h : J2O x) : Asc x.Copies := Jx0 h.asc
theorem J2O.page {x : T_api_Image} (h : J2O x) {k : Nat} (hk : k < x.Copies.length) : 0 ≤ x.Copies[k].Page ∧ x.Copies[k].Page < 64 := by
 have := JaF (h.copies _ (List.getElem_mem hk)); omega
def Cut (l : List T_api_Copy) (id : Int) (k : Nat) : Prop := k ≤ l.length ∧ (∀ (j : Nat) (h : j < l.length), j < k → l[j].Page < id) ∧ ∀ (j : Nat) (h : j < l.length), k ≤ j → id ≤ l[j].Page
def J5v (l : List T_api_Copy) (id : Int) (k : Nat) : Bool := match l[k]? with
 | some c => c.Page == id
 | none => false
theorem JlQ (c : T_api_Copy) {id : Int} (h : 0 ≤ c.Page ∧ c.Page < 64) (h0 : 0 ≤ id) (h1 : id < 64) : J2Y c id = some (c.Page - id) := by
 unfold J2Y; rw [wrap64 (by omega) (by omega)]
theorem JgE {x : T_api_Image} (hx : J2O x) {id : Int} (h0 : 0 ≤ id) (h1 : id < 64) : ∃ k, Cut x.Copies id k ∧ J4T x id = some ((k : Int), J5v x.Copies id k) := by
 obtain ⟨a, n, l⟩ := x
 have hl : l.length ≤ 64 := by have := hx.len; have := hx.p2; simp at *; omega
 have ho : Asc l := hx.ord
 have hp : ∀ (k : Nat) (hk : k < l.length), 0 ≤ l[k].Page ∧ l[k].Page < 64 := fun k hk => hx.page hk
 have key : ∃ r, J02 l id (l.length : Int) (0, (l.length : Int)) = some r ∧ ∃ k, Cut l id k ∧ r = ((k : Int), J5v l id k) := by
  unfold J02
  refine J14 (fun s : Int × Int => ∃ i j : Nat, s = ((i : Int), (j : Int)) ∧ i ≤ j ∧ j ≤ l.length ∧ (∀ (t : Nat) (h : t < l.length), t < i → l[t].Page < id) ∧ ∀ (t : Nat) (h : t < l.length), j ≤ t → id ≤ l[t].Page)
   (fun s => (s.2 - s.1).toNat) _ ?_ _ ⟨0, l.length, rfl, by omega, by omega, fun t _ ht => by omega, fun t h ht => by omega⟩
  rintro s ⟨i, j, rfl, hij, hj, hA, hB⟩
  dsimp only
  unfold JL
  by_cases hlt : i < j
  ·left
   have e1 : J8X .u64 (IntKind.wrap .u64 (IntKind.wrap .i64 ((i : Int) + (j : Int)))) 1 = some (((i + j) / 2 : Nat) : Int) := by
    rw [wrap64 (by omega) (by omega), JbA (by omega) (by omega), show (i : Int) + (j : Int) = ((i + j : Nat) : Int) by omega, Jxn]
   have hm : (i + j) / 2 < l.length := by omega
   have e2 : IntKind.wrap .i64 (((i + j) / 2 : Nat) : Int) = (((i + j) / 2 : Nat) : Int) := wrap64 (by omega) (by omega)
   rw [if_pos (by simp; omega), e1, Option.bind_some, e2, J2N, List.getElem?_eq_getElem hm, Option.bind_some, JlQ _ (hp _ hm) h0 h1, Option.bind_some]
   by_cases hc : l[(i + j) / 2].Page < id
   ·rw [if_pos (by simp; omega)]
    refine ⟨_, rfl, ⟨(i + j) / 2 + 1, j, ?_, by omega, hj, fun t ht h2 => ?_, hB⟩, ?_⟩
    ·rw [wrap64 (by omega) (by omega)]; congr 1
    ·rcases Nat.lt_or_ge t ((i + j) / 2) with h3 | h3
     ·have := ho t _ hm h3; omega
     ·obtain rfl : t = (i + j) / 2 := by omega
      exact hc
    ·dsimp only; rw [wrap64 (by omega) (by omega)]; omega
   ·rw [if_neg (by simp; omega)]
    refine ⟨_, rfl, ⟨i, (i + j) / 2, rfl, by omega, by omega, hA, fun t ht h2 => ?_⟩, ?_⟩
    ·rcases Nat.eq_or_lt_of_le h2 with h3 | h3
     ·subst h3; omega
     ·have := ho _ t ht h3; omega
    ·dsimp only; omega
  ·right
   obtain rfl : i = j := by omega
   rw [if_neg (by simp)]
   refine ⟨((i : Int), J5v l id i), ?_, i, ⟨hj, hA, hB⟩, rfl⟩
   unfold J03
   by_cases hi : i < l.length
   ·rw [if_pos (by simp; omega), J2N, List.getElem?_eq_getElem hi, Option.bind_some, JlQ _ (hp _ hi) h0 h1, Option.bind_some]
    simp only [J5v, List.getElem?_eq_getElem hi, Option.map_some]
    congr 3
    rw [Bool.eq_iff_iff]; simp; omega
   ·rw [if_neg (by simp; omega)]
    simp [J5v, List.getElem?_eq_none (show l.length ≤ i by omega)]
 obtain ⟨r, hr, k, hk, rfl⟩ := key
 refine ⟨k, hk, ?_⟩
 unfold J4T JQ
 dsimp only
 rw [hr]
 rfl
def Jc7 (l : List T_api_Copy) (c : T_api_Copy) (k : Nat) : List T_api_Copy := l.take k ++ c :: l.drop (if J5v l c.Page k then k + 1 else k)
theorem Jo9 {l : List T_api_Copy} (h : l.length ≤ 1000) : J1t l = some l := by
 unfold J1t; rw [if_pos (by omega)]
theorem JlI {x : T_api_Image} (hx : J2O x) {id : Int} {s : List UInt8} (h0 : 0 ≤ id) (h1 : id < x.Pages) (hs : (idn s id).2 = 0) {k : Nat} (hk : Cut x.Copies id k) :
  J1y x id s = some (⟨x.ID, x.Pages, Jc7 x.Copies ⟨id, (idn s id).1.LSN, s⟩ k⟩, 0) := by
 have hl : x.Copies.length ≤ 64 := by have := hx.len; have := hx.p2; omega
 have h64 : id < 64 := by have := hx.p2; omega
 unfold J1y
 rw [J2z x (by omega), J5J.2 hx, Option.bind_some, if_pos rfl, if_neg (by simp; omega), if_neg (by simp; omega), Jba, Option.bind_some, if_neg (by simp [hs])]
 obtain ⟨k', hk', e⟩ := JgE hx h0 h64
 have hkk : k' = k := by
  rcases Nat.lt_trichotomy k' k with h | h | h
  ·have a := hk.2.1 k' (by have := hk.1; omega) h
   have b := hk'.2.2 k' (by have := hk.1; omega) (Nat.le_refl _)
   omega
  ·exact h
  ·have a := hk'.2.1 k (by have := hk'.1; omega) h
   have b := hk.2.2 k (by have := hk'.1; omega) (Nat.le_refl _)
   omega
 subst hkk
 rw [e, Option.bind_some, Jo9 (by omega), Option.bind_some]
 dsimp only
 unfold Jc7
 by_cases ht : J5v x.Copies id k' = true
 ·have hlt : k' < x.Copies.length := by
   rcases Nat.lt_or_ge k' x.Copies.length with h | h
   ·exact h
   ·simp [J5v, List.getElem?_eq_none h] at ht
  rw [if_pos ht]
  dsimp only
  rw [if_pos ht]
  unfold J6X
  rw [J2N, List.getElem?_eq_getElem hlt, Option.bind_some, Option.bind_some, Int.toNat_natCast, List.set_eq_take_append_cons_drop, if_pos hlt]
 ·rw [if_neg ht]
  dsimp only
  rw [if_neg ht]
  have hk2 := hk'.1
  have e2 : J1g x.Copies (k' : Int) [⟨0, 0, []⟩] = some (x.Copies.take k' ++ ⟨0, 0, []⟩ :: x.Copies.drop k') := by
   unfold J1g Jgi
   dsimp only
   rw [if_pos ⟨by omega, by omega, by simp [J5r]; omega⟩, Int.toNat_natCast]
  have e3 : (x.Copies.take k').length = k' := by simp; omega
  rw [e2, Option.bind_some]
  unfold J6X
  have e4 : idx (x.Copies.take k' ++ (⟨0, 0, []⟩ : T_api_Copy) :: x.Copies.drop k') (k' : Int) = some ⟨0, 0, []⟩ := by
   rw [J2N, List.getElem?_append_right (by omega), e3, Nat.sub_self]; rfl
  rw [e4, Option.bind_some, Option.bind_some, Int.toNat_natCast, List.set_append_right _ _ (by omega), e3, Nat.sub_self]
  rfl
end Go.Am
end
section
namespace Go.Am
set_option maxRecDepth 16000
set_option linter.unusedSimpArgs false
set_option linter.unusedVariables false
theorem J8c {l : List T_api_Copy} {id : Int} {k : Nat} : J5v l id k = true ↔ ∃ h : k < l.length, l[k].Page = id := by
 unfold J5v
 rcases Nat.lt_or_ge k l.length with h | h
 ·simp [List.getElem?_eq_getElem h, h]
 ·simp [List.getElem?_eq_none h]; omega
theorem JcE {l : List T_api_Copy} {c : T_api_Copy} (h : l.length ≤ 1000) : JdS 32 l [c] = some (l ++ [c]) := by
 have e : J5r (l.length + [c].length) 32 = true := by
  simp only [J5r, List.length_cons, List.length_nil]
  simp; omega
 unfold JdS
 rw [if_pos e]
theorem JkC {α : Type} {l : List α} {k' j : Nat} (h : j < l.length) (h2 : k' ≤ j) : (l.drop k').take (j - k') ++ [l[j]] = (l.drop k').take (j + 1 - k') := by
 rw [show j + 1 - k' = (j - k') + 1 by omega, List.take_add_one, List.getElem?_drop, show k' + (j - k') = j by omega, List.getElem?_eq_getElem h]
 rfl
theorem Jq2 {x : T_api_Image} (hx : J2O x) {id : Int} {s : List UInt8} (h0 : 0 ≤ id) (h1 : id < x.Pages) (hs : (idn s id).2 = 0) {k : Nat} (hk : Cut x.Copies id k) :
  J29 x id s = some (⟨x.ID, x.Pages, Jc7 x.Copies ⟨id, (idn s id).1.LSN, s⟩ k⟩, 0) := by
 have hl : x.Copies.length ≤ 64 := by have := hx.len; have := hx.p2; omega
 have h64 : id < 64 := by have := hx.p2; omega
 have ho := hx.ord
 unfold J29
 rw [J5p x (by omega), J5J.2 hx, Option.bind_some, if_pos rfl, if_neg (by simp; omega), if_neg (by simp; omega), Jea, Option.bind_some, if_neg (by simp [hs])]
 generalize hc : (⟨id, (idn s id).1.LSN, s⟩ : T_api_Copy) = c
 have hcp : c.Page = id := by rw [← hc]
 obtain ⟨a, n, l⟩ := x
 dsimp only at *
 obtain ⟨k', hk'⟩ : ∃ k', k' = if J5v l id k then k + 1 else k := ⟨_, rfl⟩
 have hkk : k ≤ k' ∧ k' ≤ k + 1 := by rw [hk']; split <;> omega
 have hput : Jc7 l c k = l.take k ++ c :: l.drop k' := by unfold Jc7; rw [hcp, hk']
 obtain ⟨r, hr, rfl⟩ : ∃ r, Ja9 id ⟨a, n, l⟩ [] 0 0 c a n (false, 0, []) = some r ∧ r = (⟨a, n, Jc7 l c k⟩, 0) := by
  unfold Ja9
  refine J14 (fun s : Bool × Int × List T_api_Copy => ∃ j : Nat, j ≤ l.length ∧ s = (decide (k < j), (j : Int), if k < j then l.take k ++ c :: (l.drop k').take (j - k') else l.take j)) (fun s => (l.length - s.2.1).toNat) _ ?_ _ ⟨0, by omega, by simp⟩
  rintro _ ⟨j, hj, rfl⟩
  dsimp only
  unfold J8w
  dsimp only
  rcases Nat.lt_or_ge j l.length with hlt | hge
  ·left
   have e3 : IntKind.wrap .i64 ((j : Int) + 1) = ((j + 1 : Nat) : Int) := by rw [wrap64 (by omega) (by omega)]; omega
   have ei : idx l (j : Int) = some l[j] := by rw [J2N, List.getElem?_eq_getElem hlt]
   rw [if_pos (by simp; omega)]
   rcases Nat.lt_trichotomy j k with h | h | h
   ·
    have hpg := hk.2.1 j hlt h
    refine ⟨(decide (k < j + 1), ((j + 1 : Nat) : Int), if k < j + 1 then l.take k ++ c :: (l.drop k').take (j + 1 - k') else l.take (j + 1)), ?_, ⟨j + 1, by omega, rfl⟩, by dsimp only; omega⟩
    rw [show decide (k < j) = false by simp; omega, if_neg (show ¬ k < j by omega), show decide (k < j + 1) = false by simp; omega, if_neg (show ¬ k < j + 1 by omega)]
    simp only [Bool.false_eq_true, if_false, ei, Option.bind_some]
    rw [if_neg (by simp; omega)]
    unfold J4Q
    simp only [ei, Option.bind_some]
    rw [if_pos (by simp; omega), JcE (by simp; omega), Option.bind_some]
    unfold J4S
    rw [e3, List.take_add_one, List.getElem?_eq_getElem hlt]
    rfl
   ·
    subst h
    have hpg := hk.2.2 j hlt (Nat.le_refl _)
    refine ⟨(decide (j < j + 1), ((j + 1 : Nat) : Int), if j < j + 1 then l.take j ++ c :: (l.drop k').take (j + 1 - k') else l.take (j + 1)), ?_, ⟨j + 1, by omega, rfl⟩, by dsimp only; omega⟩
    rw [show decide (j < j) = false by simp, if_neg (show ¬ j < j by omega), show decide (j < j + 1) = true by simp, if_pos (show j < j + 1 by omega)]
    simp only [Bool.false_eq_true, if_false, ei, Option.bind_some]
    rw [if_pos (by simp; omega), JcE (by simp; omega), Option.bind_some]
    unfold J4Q
    simp only [ei, Option.bind_some]
    by_cases hp : l[j].Page = id
    ·have : k' = j + 1 := by rw [hk', if_pos (J8c.2 ⟨hlt, hp⟩)]
     subst this
     rw [if_neg (by simp [hp])]
     unfold J4S
     rw [e3, Nat.sub_self]
     rfl
    ·have : k' = j := by rw [hk', if_neg (fun h => hp (J8c.1 h).2)]
     subst this
     rw [if_pos (by simp [hp]), JcE (by simp; omega), Option.bind_some]
     unfold J4S
     rw [e3, show k' + 1 - k' = 0 + 1 by omega, List.take_add_one, List.getElem?_drop, show k' + 0 = k' from rfl, List.getElem?_eq_getElem hlt]
     simp
   ·
    have hpg := hk.2.2 k (by omega) (Nat.le_refl _)
    have hpj := ho k j hlt h
    refine ⟨(decide (k < j + 1), ((j + 1 : Nat) : Int), if k < j + 1 then l.take k ++ c :: (l.drop k').take (j + 1 - k') else l.take (j + 1)), ?_, ⟨j + 1, by omega, rfl⟩, by dsimp only; omega⟩
    rw [show decide (k < j) = true by simp; omega, if_pos h, show decide (k < j + 1) = true by simp; omega, if_pos (show k < j + 1 by omega)]
    simp only [if_true]
    unfold J4Q
    simp only [ei, Option.bind_some]
    rw [if_pos (by simp; omega), JcE (by simp; omega), Option.bind_some]
    unfold J4S
    rw [e3, List.append_assoc, List.cons_append, JkC hlt (by omega)]
  ·right
   obtain rfl : j = l.length := by omega
   rw [if_neg (by simp), hput]
   unfold Jac
   by_cases hkl : k < l.length
   ·rw [show decide (k < l.length) = true by simpa using hkl, if_pos hkl]
    rw [if_pos rfl]
    refine ⟨_, rfl, ?_⟩
    rw [List.take_of_length_le (l := l.drop k') (by rw [List.length_drop]; omega)]
   ·have hkl2 : k = l.length := by have := hk.1; omega
    rw [show decide (k < l.length) = false by simpa using hkl, if_neg hkl]
    rw [if_neg (by decide), JcE (by simp; omega), Option.bind_some]
    refine ⟨_, rfl, ?_⟩
    rw [hkl2, List.drop_eq_nil_of_le (by omega)]
 exact hr
theorem Js2 {x : T_api_Image} (hx : J2O x) {id : Int} (h0 : 0 ≤ id) (h1 : id < 64) : ∃ k, Cut x.Copies id k := by
 obtain ⟨k, hk, _⟩ := JgE hx h0 h1
 exact ⟨k, hk⟩
theorem JiT {x : T_api_Image} (hl : x.Copies.length < 1000000) (id : Int) (s : List UInt8) : J29 x id s = J1y x id s := by
 by_cases hx : J2O x
 ·by_cases hr : 0 ≤ id ∧ id < x.Pages
  ·by_cases hs : (idn s id).2 = 0
   ·obtain ⟨k, hk⟩ := Js2 hx hr.1 (by have := hx.p2; omega)
    rw [Jq2 hx hr.1 hr.2 hs hk, JlI hx hr.1 hr.2 hs hk]
   ·unfold J29 J1y
    rw [J5p x hl, J2z x hl]
    simp only [Option.bind_some, Jea, Jba, show ((idn s id).2 != 0) = true by simpa using hs, if_true]
  ·unfold J29 J1y
   rw [J5p x hl, J2z x hl]
   simp only [Option.bind_some, Jea, Jba]
   by_cases hneg : id < 0
   ·simp [hneg]
   ·simp [hneg, show id ≥ x.Pages by omega]
 ·unfold J29 J1y
  rw [J5p x hl, J2z x hl]
  have : J6F x = false := by
   cases h : J6F x with
   | false => rfl
   | true => exact absurd (J5J.1 h) hx
  simp [this]
def Ja0 : T_api_Copy := ⟨0, 0, []⟩
def J7E (l : List T_api_Copy) (id : Int) : T_api_Copy × Bool := match l.find? (fun c => c.Page == id) with
 | some c => (c, true)
 | none => (Ja0, false)
theorem JuU {l : List T_api_Copy} (ho : Asc l) {id : Int} {k : Nat} (hk : Cut l id k) : J7E l id = if J5v l id k then (l[k]?.getD Ja0, true) else (Ja0, false) := by
 unfold J7E
 split
 ·rename_i c hc
  have h1 := List.find?_some hc
  obtain ⟨j, hj⟩ := List.getElem?_of_mem (List.mem_of_find?_eq_some hc)
  have hlt : j < l.length := by
   rcases Nat.lt_or_ge j l.length with h' | h'
   ·exact h'
   ·simp [List.getElem?_eq_none h'] at hj
  rw [List.getElem?_eq_getElem hlt] at hj
  injection hj with hj
  have hid : l[j].Page = id := by rw [hj]; simpa using h1
  have hjk : j = k := by
   rcases Nat.lt_trichotomy j k with h | h | h
   ·have := hk.2.1 j hlt h; omega
   ·exact h
   ·have := hk.2.2 k (by omega) (Nat.le_refl _); have := ho k j hlt h; omega
  subst hjk
  rw [if_pos (J8c.2 ⟨hlt, hid⟩), List.getElem?_eq_getElem hlt, hj]
  rfl
 ·rename_i hc
  rw [if_neg]
  intro h
  obtain ⟨h1, h2⟩ := J8c.1 h
  have := List.find?_eq_none.1 hc _ (List.getElem_mem h1)
  simp [h2] at this
theorem Jkp {x : T_api_Image} (hl : x.Copies.length < 1000000) (id : Int) : J5y x id = some (if J6F x then J7E x.Copies id else (Ja0, false)) := by
 unfold J5y
 rw [J2z x hl, Option.bind_some]
 by_cases hx : J2O x
 ·rw [J5J.2 hx, if_pos rfl, if_pos rfl]
  by_cases hr : 0 ≤ id ∧ id < x.Pages
  ·rw [if_neg (by simp; omega), if_neg (by simp; omega)]
   obtain ⟨k, hk, e⟩ := JgE hx hr.1 (by have := hx.p2; omega)
   rw [e, Option.bind_some, JuU hx.ord hk]
   dsimp only
   by_cases ht : J5v x.Copies id k = true
   ·obtain ⟨h1, h2⟩ := J8c.1 ht
    rw [if_pos ht, if_pos ht, J2N, List.getElem?_eq_getElem h1]
    rfl
   ·rw [if_neg ht, if_neg ht]
    rfl
  ·have hf : J7E x.Copies id = (Ja0, false) := by
    unfold J7E
    rw [List.find?_eq_none.2 fun c hc => by
     have := JaF (hx.copies c hc)
     simp; omega]
   rw [hf]
   by_cases hneg : id < 0
   ·rw [if_pos (by simp; omega)]; rfl
   ·rw [if_neg (by simp; omega), if_pos (by simp; omega)]; rfl
 ·have : J6F x = false := by
   cases h : J6F x with
   | false => rfl
   | true => exact absurd (J5J.1 h) hx
  rw [this]
  rfl
theorem JnY {x : T_api_Image} (hl : x.Copies.length < 1000000) (id : Int) : J5A x id = some (if J6F x then J7E x.Copies id else (Ja0, false)) := by
 unfold J5A Jbv
 cases hv : J6F x with
 | true =>
  have h := Jlu (f := fun s => J44 id x ⟨0, 0, []⟩ s) (l := x.Copies) (fun c => c.Page == id) (fun k => (x.Copies[k]?.getD Ja0, true)) (Ja0, false) hl (fun k hk => by
   unfold J44
   rw [if_pos (by simp; omega), J5p x hl, hv, Option.bind_some, if_pos rfl, J2N, List.getElem?_eq_getElem hk, Option.bind_some]
   have e3 : IntKind.wrap .i64 ((k : Int) + 1) = ((k + 1 : Nat) : Int) := by rw [wrap64 (by omega) (by omega)]; omega
   rw [e3]
   cases x.Copies[k].Page == id <;> rfl) (by
   unfold J44
   rw [if_neg (by simp)]
   rfl)
  rw [h, if_pos rfl]
  congr 1
  unfold J7E
  cases hf : x.Copies.findIdx? (fun c => c.Page == id) with
  | none =>
   rw [List.findIdx?_eq_none_iff] at hf
   rw [List.find?_eq_none.2 fun c hc => by simpa using hf c hc]
  | some k =>
   obtain ⟨hk, h3, h4⟩ := List.findIdx?_eq_some_iff_getElem.1 hf
   have : x.Copies.find? (fun c => c.Page == id) = some x.Copies[k] := List.find?_eq_some_iff_getElem.2 ⟨h3, k, hk, rfl, fun j hj => by simpa using h4 j hj⟩
   rw [this]
   dsimp only
   rw [List.getElem?_eq_getElem hk]
   rfl
 | false =>
  refine J2K ?_
  unfold J44
  by_cases h0 : x.Copies.length = 0
  ·rw [if_neg (by simp [h0])]; rfl
  ·rw [if_pos (by simp; omega), J5p x hl, hv, Option.bind_some]
   rfl
theorem Jrv {x : T_api_Image} (hl : x.Copies.length < 1000000) (id : Int) : ∃ r, J6x x id = some r ∧ J6v x id = some r := by
 unfold J6x J6v
 rw [J2z x hl, J5p x hl, Jkp hl, JnY hl]
 simp only [Option.bind_some, Jea, Jba]
 generalize (if J6F x = true then J7E x.Copies id else (Ja0, false)) = f
 cases J6F x <;> cases f.2 <;> exact ⟨_, rfl, rfl⟩
theorem Jr1 {x : T_api_Image} (hl : x.Copies.length < 1000000) : ∃ r, J4Z x = some r ∧ J51 x = some r ∧ r = (J6F x && ((x.Copies.length : Int) == x.Pages)) := by
 unfold J4Z J51
 rw [J2z x hl, J5p x hl]
 cases J6F x <;> exact ⟨_, rfl, rfl, by simp⟩
theorem Jm2 {f : Int → Option (Int ⊕ Bool)} {l l' : List T_api_Copy} (hl : l.length < 1000000) (hll : l.length = l'.length)
  (h1 : ∀ (k : Nat) (h : k < l.length), f (k : Int) = some (if (l[k] == l'[k]) = true then .inl ((k + 1 : Nat) : Int) else .inr false)) (h2 : f (l.length : Int) = some (.inr true)) : Jx f 0 = some (l == l') := by
 rw [JeG (n := l.length) (fun k => l[k]? == l'[k]?) false true hl (fun k h => by
  rw [h1 k h, List.getElem?_eq_getElem h, List.getElem?_eq_getElem (by omega)]
  simp) h2, Jg8]
 congr 1
 rw [Bool.eq_iff_iff]
 simp only [List.all_eq_true, List.mem_range, beq_iff_eq]
 constructor
 ·intro h
  apply List.ext_getElem?
  intro k
  rcases Nat.lt_or_ge k l.length with hk | hk
  ·exact h k hk
  ·rw [List.getElem?_eq_none hk, List.getElem?_eq_none (by omega)]
 ·rintro rfl k _
  rfl
theorem Jkd {x y : T_api_Image} (hl : x.Copies.length < 1000000) : J3M x y = some (x == y) := by
 obtain ⟨a, n, l⟩ := x
 obtain ⟨a', n', l'⟩ := y
 unfold J3M J0J
 dsimp only at *
 have e : ((⟨a, n, l⟩ : T_api_Image) == ⟨a', n', l'⟩) = ((a == a') && ((n == n') && (l == l'))) := by
  rw [Bool.eq_iff_iff]; simp
 rw [e]
 cases h1 : (a == a')
 ·rfl
 cases h2 : (n == n')
 ·rfl
 simp only [if_true, Bool.true_and]
 by_cases h3 : l.length = l'.length
 ·rw [if_neg (by simp [h3])]
  unfold J3j
  rw [Jm2 hl h3 (fun k hk => by
   unfold J0B
   rw [if_pos (by simp; omega), J2N, J2N, List.getElem?_eq_getElem hk, List.getElem?_eq_getElem (by omega), Option.bind_some, Option.bind_some]
   have e3 : IntKind.wrap .i64 ((k : Int) + 1) = ((k + 1 : Nat) : Int) := by rw [wrap64 (by omega) (by omega)]; omega
   rw [e3]
   cases l[k] == l'[k] <;> rfl) (by
   unfold J0B
   rw [if_neg (by simp)]
   rfl)]
  rfl
 ·rw [if_pos (by simp; omega)]
  have : (l == l') = false := by
   cases h : l == l' with
   | false => rfl
   | true => simp at h; exact absurd (by rw [h]) h3
  rw [this]; rfl
theorem Jnz {x y : T_api_Image} (hl : x.Copies.length < 1000000) : J4m x y = some (x == y) := by
 obtain ⟨a, n, l⟩ := x
 obtain ⟨a', n', l'⟩ := y
 unfold J4m
 dsimp only at *
 have e : ((⟨a, n, l⟩ : T_api_Image) == ⟨a', n', l'⟩) = ((a == a') && ((n == n') && (l == l'))) := by
  rw [Bool.eq_iff_iff]; simp
 rw [e]
 unfold bne
 cases h1 : (a == a')
 ·rfl
 cases h2 : (n == n')
 ·rfl
 simp only [if_true, Bool.true_and, Bool.not_true, Bool.false_eq_true, if_false]
 by_cases h3 : l.length = l'.length
 ·rw [if_neg (by simp [h3])]
  unfold Jbu
  rw [Jm2 hl h3 (fun k hk => by
   unfold J6m
   rw [if_pos (by simp; omega)]
   dsimp only
   rw [J2N, J2N, List.getElem?_eq_getElem hk, List.getElem?_eq_getElem (by omega), Option.bind_some, Option.bind_some]
   have e3 : IntKind.wrap .i64 ((k : Int) + 1) = ((k + 1 : Nat) : Int) := by rw [wrap64 (by omega) (by omega)]; omega
   rw [e3]
   cases l[k] == l'[k] <;> rfl) (by
   unfold J6m
   rw [if_neg (by simp)]
   rfl)]
 ·rw [if_pos (by simp; omega)]
  have : (l == l') = false := by
   cases h : l == l' with
   | false => rfl
   | true => simp at h; exact absurd (by rw [h]) h3
  rw [this]
end Go.Am
end
section
namespace Go.Am
set_option maxRecDepth 16000
set_option linter.unusedSimpArgs false
set_option linter.unusedVariables false
theorem Jrp {l : List T_api_Copy} : Asc l ↔ l.Pairwise fun a b => a.Page < b.Page := by
 rw [List.pairwise_iff_getElem]
 exact ⟨fun h i j hi hj hij => h i j hj hij, fun h i j hj hij => h i j (by omega) hj hij⟩
theorem Jqu {l : List T_api_Copy} {id : Int} {k : Nat} (hk : Cut l id k) : ∀ y ∈ l.take k, y.Page < id ∧ y ∈ l := by
 intro y hy
 obtain ⟨j, hj, rfl⟩ := List.mem_iff_getElem.1 hy
 simp only [List.length_take] at hj
 rw [List.getElem_take]
 exact ⟨hk.2.1 j (by omega) (by omega), List.getElem_mem _⟩
theorem JkD {l : List T_api_Copy} (ho : Asc l) {id : Int} {k : Nat} (hk : Cut l id k) : ∀ y ∈ l.drop (if J5v l id k then k + 1 else k), id < y.Page ∧ y ∈ l := by
 intro y hy
 obtain ⟨j, hj, rfl⟩ := List.mem_iff_getElem.1 hy
 simp only [List.length_drop] at hj
 rw [List.getElem_drop]
 refine ⟨?_, List.getElem_mem _⟩
 by_cases ht : J5v l id k = true
 ·obtain ⟨h1, h2⟩ := J8c.1 ht
  simp only [ht, if_true] at hj ⊢
  have := ho k (k + 1 + j) (by omega) (by omega)
  omega
 ·simp only [ht, Bool.false_eq_true, if_false] at hj ⊢
  have h0 := hk.2.2 (k + j) (by omega) (by omega)
  rcases Nat.eq_zero_or_pos j with hz | hz
  ·subst hz
   have : l[k].Page ≠ id := fun h => ht (J8c.2 ⟨by omega, h⟩)
   simp only [Nat.add_zero] at h0 ⊢
   omega
  ·have := ho k (k + j) (by omega) (by omega)
   have := hk.2.2 k (by omega) (Nat.le_refl _)
   omega
theorem Je1 {l : List T_api_Copy} (ho : Asc l) {c : T_api_Copy} {k : Nat} (hk : Cut l c.Page k) (y : T_api_Copy) : y ∈ Jc7 l c k ↔ y = c ∨ (y ∈ l ∧ y.Page ≠ c.Page) := by
 unfold Jc7
 rw [List.mem_append, List.mem_cons]
 constructor
 ·rintro (h | h | h)
  ·have := Jqu hk y h; exact .inr ⟨this.2, by omega⟩
  ·exact .inl h
  ·have := JkD ho hk y h; exact .inr ⟨this.2, by omega⟩
 ·rintro (h | ⟨h, hne⟩)
  ·exact .inr (.inl h)
  ·obtain ⟨j, hj, rfl⟩ := List.mem_iff_getElem.1 h
   rcases Nat.lt_or_ge j k with h1 | h1
   ·exact .inl (List.mem_iff_getElem.2 ⟨j, by simp; omega, by rw [List.getElem_take]⟩)
   ·refine .inr (.inr ?_)
    have hge : (if J5v l c.Page k then k + 1 else k) ≤ j := by
     split
     ·rename_i ht
      obtain ⟨h3, h4⟩ := J8c.1 ht
      rcases Nat.eq_or_lt_of_le h1 with h5 | h5
      ·subst h5; exact absurd h4 hne
      ·exact h5
     ·exact h1
    generalize (if J5v l c.Page k then k + 1 else k) = k' at hge
    exact List.mem_iff_getElem.2 ⟨j - k', by simp; omega, by rw [List.getElem_drop]; congr 1; omega⟩
theorem Jqr {l : List T_api_Copy} (ho : Asc l) {c : T_api_Copy} {k : Nat} (hk : Cut l c.Page k) : Asc (Jc7 l c k) := by
 rw [Jrp]
 have hp := Jrp.1 ho
 unfold Jc7
 rw [List.pairwise_append, List.pairwise_cons]
 refine ⟨hp.sublist (List.take_sublist _ _), ⟨fun y hy => (JkD ho hk y hy).1, hp.sublist (List.drop_sublist _ _)⟩, fun a ha b hb => ?_⟩
 have h1 := (Jqu hk a ha).1
 rcases List.mem_cons.1 hb with h | h
 ·rw [h]; exact h1
 ·have := (JkD ho hk b h).1; omega
theorem Js1 {x : T_api_Image} (hx : J2O x) {id : Int} {s : List UInt8} (h0 : 0 ≤ id) (h1 : id < x.Pages) (hs : (idn s id).2 = 0) {k : Nat} (hk : Cut x.Copies id k) :
  J2O ⟨x.ID, x.Pages, Jc7 x.Copies ⟨id, (idn s id).1.LSN, s⟩ k⟩ := by
 have ho := hx.ord
 refine ⟨hx.id1, hx.id2, hx.p1, hx.p2, fun y hy => ?_, fun j hj => Jqr (c := ⟨id, (idn s id).1.LSN, s⟩) ho hk j (j + 1) hj (by omega)⟩
 rcases (Je1 (c := ⟨id, (idn s id).1.LSN, s⟩) ho hk y).1 hy with h | h
 ·subst h
  simp [J9z, h1, hs]
 ·exact hx.copies y h.1
theorem Jin {l : List T_api_Copy} (ho : Asc l) {id : Int} {y : T_api_Copy} (hy : y ∈ l) (hid : y.Page = id) : J7E l id = (y, true) := by
 unfold J7E
 cases hf : l.find? (fun c => c.Page == id) with
 | none => have := List.find?_eq_none.1 hf y hy; simp [hid] at this
 | some c =>
  have h1 := List.find?_some hf
  have h2 := List.mem_of_find?_eq_some hf
  obtain ⟨i, hi, rfl⟩ := List.mem_iff_getElem.1 hy
  obtain ⟨j, hj, rfl⟩ := List.mem_iff_getElem.1 h2
  simp only [beq_iff_eq] at h1
  have : i = j := by
   rcases Nat.lt_trichotomy i j with h | h | h
   ·have := ho i j hj h; omega
   ·exact h
   ·have := ho j i hi h; omega
  subst this
  rfl
theorem Jow {l : List T_api_Copy} {id : Int} (h : ∀ y ∈ l, y.Page ≠ id) : J7E l id = (Ja0, false) := by
 unfold J7E
 rw [List.find?_eq_none.2 fun c hc => by simpa using h c hc]
theorem Ju1 {l : List T_api_Copy} (ho : Asc l) {c : T_api_Copy} {k : Nat} (hk : Cut l c.Page k) (id : Int) : J7E (Jc7 l c k) id = if id = c.Page then (c, true) else J7E l id := by
 have ho' := Jqr ho hk
 by_cases h : id = c.Page
 ·rw [if_pos h]
  exact Jin ho' ((Je1 ho hk c).2 (.inl rfl)) h.symm
 ·rw [if_neg h]
  by_cases hx : ∃ y ∈ l, y.Page = id
  ·obtain ⟨y, hy, hid⟩ := hx
   rw [Jin ho hy hid, Jin ho' ((Je1 ho hk y).2 (.inr ⟨hy, by omega⟩)) hid]
  ·rw [Jow fun y hy => ?_, Jow fun y hy => ?_]
   ·exact fun e => hx ⟨y, hy, e⟩
   ·intro e
    rcases (Je1 ho hk y).1 hy with h2 | h2
    ·subst h2; exact h e.symm
    ·exact hx ⟨y, h2.1, e⟩
theorem JsU {x : T_api_Image} (hx : J2O x) {id : Int} {s : List UInt8} (h0 : 0 ≤ id) (h1 : id < x.Pages) (hs : (idn s id).2 = 0) :
  ∃ y, J1y x id s = some (y, 0) ∧ J29 x id s = some (y, 0) ∧ J2O y ∧ y.ID = x.ID ∧ y.Pages = x.Pages ∧ (∀ z, z ∈ y.Copies ↔ z = ⟨id, (idn s id).1.LSN, s⟩ ∨ (z ∈ x.Copies ∧ z.Page ≠ id)) ∧
   ∀ i, J7E y.Copies i = if i = id then (⟨id, (idn s id).1.LSN, s⟩, true) else J7E x.Copies i := by
 obtain ⟨k, hk⟩ := Js2 hx h0 (by have := hx.p2; omega)
 exact ⟨_, JlI hx h0 h1 hs hk, Jq2 hx h0 h1 hs hk, Js1 hx h0 h1 hs hk, rfl, rfl, fun z => Je1 (c := ⟨id, (idn s id).1.LSN, s⟩) hx.ord hk z, fun i => Ju1 (c := ⟨id, (idn s id).1.LSN, s⟩) hx.ord hk i⟩
theorem Jqe {x : T_api_Image} (hl : x.Copies.length < 1000000) (id : Int) (s : List UInt8) : ∃ r, J1y x id s = some r ∧ J29 x id s = some r ∧ (r.2 = 0 → J2O x ∧ J2O r.1 ∧ r.1.Pages = x.Pages) ∧ (r.2 ≠ 0 → r.1 = ⟨0, 0, []⟩) := by
 by_cases hx : J2O x
 ·by_cases hr : 0 ≤ id ∧ id < x.Pages
  ·by_cases hs : (idn s id).2 = 0
   ·obtain ⟨y, e1, e2, h1, _, h2, _⟩ := JsU hx hr.1 hr.2 hs
    exact ⟨_, e1, e2, fun _ => ⟨hx, h1, h2⟩, fun h => absurd rfl h⟩
   ·rw [JiT hl]
    unfold J1y
    rw [J2z x hl, J5J.2 hx, Option.bind_some, if_pos rfl, if_neg (by simp; omega), if_neg (by simp; omega), Jba, Option.bind_some, if_pos (by simpa using hs)]
    exact ⟨_, rfl, rfl, fun h => absurd h hs, fun _ => rfl⟩
  ·rw [JiT hl]
   unfold J1y
   rw [J2z x hl, J5J.2 hx, Option.bind_some, if_pos rfl]
   by_cases hneg : id < 0
   ·rw [if_pos (by simpa using hneg)]
    exact ⟨_, rfl, rfl, fun h => by simp at h, fun _ => rfl⟩
   ·rw [if_neg (by simpa using hneg), if_pos (by simp; omega)]
    exact ⟨_, rfl, rfl, fun h => by simp at h, fun _ => rfl⟩
 ·rw [JiT hl]
  unfold J1y
  have : J6F x = false := by
   cases h : J6F x with
   | false => rfl
   | true => exact absurd (J5J.1 h) hx
  rw [J2z x hl, this, Option.bind_some, if_neg (by decide)]
  exact ⟨_, rfl, rfl, fun h => by simp at h, fun _ => rfl⟩
end Go.Am
end
section
namespace Go.Am
set_option maxRecDepth 16000
set_option linter.unusedSimpArgs false
set_option linter.unusedVariables false
def part (s : List UInt8) (at_ n : Nat) : List UInt8 := (s.drop at_).take n
def Jgj (p : List UInt8) : List UInt8 := JM (p.length : Int) 4 ++ p ++ JM ((crc (JM (p.length : Int) 4 ++ p) : Nat) : Int) 4
theorem J9C (p : List UInt8) : (Jgj p).length = p.length + 8 := by simp [Jgj, JJ]; omega
theorem Jkj {p : List UInt8} (h : p.length ≤ 8392) : J34 p = some (Jgj p) := by
 unfold J34
 rw [if_neg (by simp; omega), show (4 : Int) = ((4 : Nat) : Int) from rfl, Jh4 [] _ (by decide) (by decide) (by simp), Option.bind_some, List.nil_append, J8W (by simp [JJ]; omega), Option.bind_some, Jiy _ (by simp [JJ]; omega), Option.bind_some]
 have hc := Jk0 (JM (p.length : Int) 4 ++ p)
 rw [wrap64 (by omega) (by omega), Jh4 _ _ (by decide) (by decide) (by simp [JJ]; omega)]
 rfl
end Go.Am
end
section
namespace Go.Am
set_option maxRecDepth 16000
set_option linter.unusedSimpArgs false
set_option linter.unusedVariables false
def Jnf (x : T_api_Image) : List UInt8 := [80, 77, 73, 77] ++ JM x.ID 4 ++ JM x.Pages 2 ++ JM (x.Copies.length : Int) 2
def Jnh (c : T_api_Copy) : List UInt8 := JM c.Page 2 ++ c.Data
def Jcu (l : List T_api_Copy) : List UInt8 := (l.map fun c => Jgj (Jnh c)).flatten
def Ju5 (x : T_api_Image) : List UInt8 := Jgj (Jnf x) ++ Jcu x.Copies
theorem Jdx (x : T_api_Image) : (Jnf x).length = 12 := by simp [Jnf, JJ]
theorem Jdz {c : T_api_Copy} (h : c.Data.length = 256) : (Jnh c).length = 258 := by simp [Jnh, JJ, h]
theorem J2O.data {x : T_api_Image} (h : J2O x) : ∀ c ∈ x.Copies, c.Data.length = 256 := fun c hc => (JlC (JaF (h.copies c hc)).2.2.2.1).2.2
theorem Ji7 : ∀ {l : List T_api_Copy}, (∀ c ∈ l, c.Data.length = 256) → (Jcu l).length = 266 * l.length
 | [], _ => rfl
 | c :: l, h => by
  have := Ji7 (l := l) fun c hc => h c (by simp [hc])
  unfold Jcu at this ⊢
  rw [List.map_cons, List.flatten_cons, List.length_append, this, J9C, Jdz (h c (by simp))]
  simp; omega
theorem JtL {x : T_api_Image} (h : J2O x) : (Ju5 x).length = 20 + 266 * x.Copies.length := by
 unfold Ju5
 rw [List.length_append, J9C, Jdx, Ji7 h.data]
theorem Jm3 : ∀ (l : List T_api_Copy) (s : List UInt8), (∀ c ∈ l, c.Data.length = 256) → s.length + 300 * l.length ≤ 1000000 → JcC l s = some (s ++ Jcu l)
 | [], s, _, _ => by simp [JcC, Jcu]
 | c :: l, s, h, hs => by
  have hd := h c (by simp)
  simp only [List.length_cons] at hs
  unfold JcC
  have e1 : J0w [] c.Page 2 = some (JM c.Page 2) := by
   have := Jh4 [] c.Page (k := 2) (by decide) (by decide) (by simp)
   simpa using this
  rw [e1, Option.bind_some, J8W (by simp [JJ]; omega), Option.bind_some, show JM c.Page 2 ++ c.Data = Jnh c from rfl, Jkj (by rw [Jdz hd]; omega), Option.bind_some]
  rw [if_pos (by rw [J9C, Jdz hd]; omega), Jm3 l _ (fun c hc => h c (by simp [hc])) (by rw [List.length_append, J9C, Jdz hd]; omega)]
  simp [Jcu]
theorem JtD (put : List UInt8 → Int → Int → Option (List UInt8)) (h : ∀ (l : List UInt8) (n : Int) (k : Nat), 1 ≤ k → k ≤ 8 → l.length ≤ 1000 → put l n (k : Int) = some (l ++ JM n k)) (x : T_api_Image) {ρ : Type} (f : List UInt8 → Option ρ) :
  (Option.bind (put [80, 77, 73, 77] x.ID 4) fun h1 => Option.bind (put h1 x.Pages 2) fun h2 => Option.bind (put h2 ((x.Copies.length : Nat) : Int) 2) fun h3 => f h3) = f (Jnf x) := by
 rw [show (4 : Int) = ((4 : Nat) : Int) from rfl, show (2 : Int) = ((2 : Nat) : Int) from rfl, h _ _ 4 (by decide) (by decide) (by simp), Option.bind_some, h _ _ 2 (by decide) (by decide) (by simp [JJ]), Option.bind_some, h _ _ 2 (by decide) (by decide) (by simp [JJ]), Option.bind_some]
 rfl
theorem Job {x : T_api_Image} (hl : x.Copies.length ≤ 1000) : J3f x = some (if J6F x then (Ju5 x, 0) else ([], 43)) := by
 unfold J3f
 rw [J2z x (by omega), Option.bind_some]
 by_cases hx : J2O x
 ·rw [J5J.2 hx, if_pos rfl, if_pos rfl]
  rw [JtD J0w (fun l n k h1 h8 h => Jh4 l n h1 h8 (by omega)) x, Jkj (by rw [Jdx]; omega), Option.bind_some, if_pos (by rw [J9C, Jdx]; omega),
   Jm3 _ _ hx.data (by rw [J9C, Jdx]; omega), Option.bind_some]
  rfl
 ·have : J6F x = false := by
   cases h : J6F x with
   | false => rfl
   | true => exact absurd (J5J.1 h) hx
  rw [this]
  rfl
end Go.Am
end
section
namespace Go.Am
set_option maxRecDepth 16000
set_option linter.unusedSimpArgs false
set_option linter.unusedVariables false
theorem Jik {σ ρ : Type} {f : σ → Option (σ ⊕ ρ)} (I : σ → Prop) (m : σ → Nat) (Q : ρ → Prop)
  (h : ∀ s, I s → Tot (f s) fun r => (∃ s', r = .inl s' ∧ I s' ∧ m s' < m s) ∨ ∃ x, r = .inr x ∧ Q x) {s : σ} (hs : I s) : Tot (Jx f s) Q := by
 obtain ⟨r, h1, h2⟩ := J14 (f := f) I m Q (fun s hs => by
  obtain ⟨r, e, h3⟩ := h s hs
  rcases h3 with ⟨s', rfl, h4, h5⟩ | ⟨x, rfl, h4⟩
  ·exact .inl ⟨s', e, h4, h5⟩
  ·exact .inr ⟨x, e, h4⟩) s hs
 exact ⟨r, h1, h2⟩
theorem JpA {p : T_api_Page} (hp : J6s p) : J39 p = some (Jhd p, 0) := by rw [JeH, Jlt hp]
section
variable {b : T_pagemenddraw_Codes} (hb : J0c b)
include hb
theorem JwY {id : Int} (h0 : 0 ≤ id) (h1 : id < 64) : Drw (J3o b id) fun p => J6s p ∧ p.ID = id := by
 obtain ⟨p, b', e, h2, h3, h4⟩ := Js4 hb h0 h1
 exact ⟨_, e, h2, h3, h4⟩
theorem JuE : Drw (J32 b) fun t => t.length = 256 := by
 obtain ⟨p, b', e, h2, h3⟩ := JtO hb
 exact ⟨_, e, h2, h3⟩
theorem JpU {id : Int} (h0 : 0 ≤ id) (h1 : id < 64) : Drw (J6u b id) fun t => t.length = 256 := by
 unfold J6u
 refine .bind (J7W hb (by omega) (by omega)) fun r1 ⟨h2, q2⟩ => .both ?_ (.both ?_ ?_)
 ·exact .eq JlU (.some ⟨h2, JvV⟩)
 ·exact .bind (JuE h2) fun r3 ⟨h3, q3⟩ => .some ⟨h3, q3⟩
 ·refine .bind (JwY h2 h0 h1) fun r3 ⟨h3, q3, q4⟩ => .eq (JpA q3) (.some ⟨h3, Jsn q3⟩)
theorem JuI : Drw (J87 b) fun x => J2O x ∧ x.Pages ≤ 6 := by
 unfold J87
 refine .bind (J7W hb (by omega) (by omega)) fun r1 ⟨h1, q1⟩ => .bind (J7W h1 (by omega) (by omega)) fun r2 ⟨h2, q2⟩ => ?_
 unfold Jbz
 refine Jik (fun s : Int × T_pagemenddraw_Codes × T_api_Image => 0 ≤ s.1 ∧ s.1 ≤ 6 ∧ J0c s.2.1 ∧ J2O s.2.2 ∧ s.2.2.Pages ≤ 6) (fun s => (6 - s.1).toNat) _ ?_ ?_
 ·rintro ⟨k, b', x⟩ ⟨k0, k6, hb', hx, hp⟩
  dsimp only at *
  unfold J7M
  refine .ite (fun hlt => ?_) (fun hge => ?_)
  ·have hlt : k < x.Pages := by simpa using hlt
   have e3 : IntKind.wrap .i64 (k + 1) = k + 1 := wrap64 (by omega) (by omega)
   unfold J6j
   simp only [e3]
   refine .bind (J7W hb' (by omega) (by omega)) fun r3 ⟨h3, q3⟩ => .both ?_ ?_
   ·exact .some (.inl ⟨_, rfl, ⟨by dsimp only; omega, by dsimp only; omega, h3, hx, hp⟩, by dsimp only; omega⟩)
   ·refine .bind (JpU h3 k0 (by omega)) fun r4 ⟨h4, q4⟩ => ?_
    have hl : x.Copies.length ≤ 64 := by have := hx.len; omega
    obtain ⟨r, e1, e2, ok, _⟩ := Jqe (x := x) (by omega) k r4.1
    refine .eq e2 (.ite (fun h0 => ?_) (fun _ => ?_))
    ·obtain ⟨_, y1, y2⟩ := ok (by simpa using h0)
     exact .some (.inl ⟨_, rfl, ⟨by dsimp only; omega, by dsimp only; omega, h4, y1, by dsimp only; omega⟩, by dsimp only; omega⟩)
    ·exact .some (.inl ⟨_, rfl, ⟨by dsimp only; omega, by dsimp only; omega, h4, hx, hp⟩, by dsimp only; omega⟩)
  ·exact .some (.inr ⟨_, rfl, hb', hx, hp⟩)
 ·have e1 : IntKind.wrap .i64 (1 + r1.1) = 1 + r1.1 := wrap64 (by omega) (by omega)
  have e2 : IntKind.wrap .i64 (1 + r2.1) = 1 + r2.1 := wrap64 (by omega) (by omega)
  rw [e1, e2]
  refine ⟨by dsimp only; omega, by dsimp only; omega, h2, ⟨by dsimp only; omega, by dsimp only; omega, by dsimp only; omega, by dsimp only; omega, fun c hc => (List.not_mem_nil hc).elim, fun k hk => (Nat.not_lt_zero _ hk).elim⟩, by dsimp only; omega⟩
theorem Jxv {x : T_api_Image} (hx : J2O x) (hp : x.Pages ≤ 6) : Drw (J8M b x) fun y => y.Copies.length ≤ 64 := by
 have hl : x.Copies.length ≤ 6 := by have := hx.len; omega
 unfold J8M
 refine .eq (v := x.Copies) (by unfold Jrl; rw [if_pos (by simp [J5r]; omega)]) ?_
 by_cases h0 : x.Copies.length = 0
 ·rw [if_pos (by simp [h0])]
  exact .bind (Juo hb) fun r1 ⟨h1, _⟩ => .bind (Juo h1) fun r2 ⟨h2, _⟩ => .some ⟨h2, by dsimp only; omega⟩
 ·rw [if_neg (by simpa using h0)]
  refine .bind (J7W hb (by omega) (by omega)) fun r1 ⟨h1, q1⟩ => ?_
  obtain ⟨r, b1⟩ := r1
  simp only at h1 q1 ⊢
  obtain ⟨k, rfl⟩ : ∃ k : Nat, r = (k : Int) := ⟨r.toNat, by omega⟩
  have hk : k < x.Copies.length := by omega
  have hd := hx.data _ (List.getElem_mem hk)
  refine .eq (v := x.Copies[k]) (by rw [J2N, List.getElem?_eq_getElem hk]) (.bind (J7W h1 (by omega) (by omega)) fun r2 ⟨h2, _⟩ => .both ?_ (.both ?_ (.both ?_ (.both ?_ ?_))))
  ·exact .bind (J7W h2 (by omega) (by omega)) fun r3 ⟨h3, _⟩ => .eq rfl (.some ⟨h3, by simp; omega⟩)
  ·exact .eq rfl (.some ⟨h2, by simp; omega⟩)
  ·exact .bind (Jtq h2 (by omega)) fun r3 ⟨h3, _⟩ => .eq rfl (.some ⟨h3, by simp; omega⟩)
  ·exact .bind (J7W h2 (by omega) (by omega)) fun r3 ⟨h3, _⟩ => .some ⟨h3, by dsimp only; omega⟩
  ·exact .some ⟨h2, by dsimp only; omega⟩
end
theorem Jiz : J2O ⟨1, 1, []⟩ := ⟨by decide, by decide, by decide, by decide, fun c hc => (List.not_mem_nil hc).elim, fun k hk => (Nat.not_lt_zero _ hk).elim⟩
theorem Jw2 : J5Y = some true := by
 unfold J5Y
 rw [Job (by simp), J5J.2 Jiz, if_pos rfl, Option.bind_some]
 have hl := JtL Jiz
 rw [if_pos (by rfl), if_pos (by dsimp only; rw [hl]; rfl), J2z _ (by simp), J5J.2 Jiz]
 rfl
theorem Jpu {x y : T_api_Image} (hy : y.Copies.length ≤ 64) {b : T_pagemenddraw_Codes} (hb : J0c b) (x1 : Int) (x2 : List UInt8) (l : List T_api_Image) (n k : Int) (hk : 0 ≤ k ∧ k < 100) :
  Tot (J4s x1 x2 l n k x y (-1, b)) fun r => ∃ b', r = .inl (k + 1, b') ∧ J0c b' := by
 unfold J4s
 refine Jik (fun s : Int × T_pagemenddraw_Codes => -1 ≤ s.1 ∧ s.1 ≤ 8 ∧ J0c s.2) (fun s => (8 - s.1).toNat) _ ?_ ⟨by dsimp only; omega, by dsimp only; omega, hb⟩
 rintro ⟨j, b'⟩ ⟨j0, j8, hb'⟩
 dsimp only at *
 unfold J4n
 refine .ite (fun hlt => ?_) (fun hge => ?_)
 ·have hlt : j < 8 := by simpa using hlt
  have key : ∀ p : Int, Tot (J3e x1 x2 j p l n k b' x y) fun r => (∃ s' : Int × T_pagemenddraw_Codes, r = .inl s' ∧ (-1 ≤ s'.1 ∧ s'.1 ≤ 8 ∧ J0c s'.2) ∧ (8 - s'.1).toNat < (8 - j).toNat) ∨ ∃ z, r = .inr z ∧ ∃ b'', z = .inl (k + 1, b'') ∧ J0c b'' := by
   intro p
   unfold J3e
   have key2 : ∀ (t : List UInt8) (b2 : T_pagemenddraw_Codes), J0c b2 → Tot (J3a x1 x2 j p t l n k b2 x y) fun r => (∃ s' : Int × T_pagemenddraw_Codes, r = .inl s' ∧ (-1 ≤ s'.1 ∧ s'.1 ≤ 8 ∧ J0c s'.2) ∧ (8 - s'.1).toNat < (8 - j).toNat) ∨ ∃ z, r = .inr z ∧ ∃ b'', z = .inl (k + 1, b'') ∧ J0c b'' := by
    intro t b2 hb2
    unfold J3a
    obtain ⟨r, e1, e2, ok, no⟩ := Jqe (x := y) (by omega) p t
    obtain ⟨q, g1, g2⟩ := Jrv (x := y) (by omega) p
    have hlen : r.1.Copies.length < 1000000 := by
     by_cases h0 : r.2 = 0
     ·have := (ok h0).2.1.len; have := (ok h0).2.1.p2; omega
     ·rw [no h0]; simp
    refine .eq e1 (.eq e2 (.eq (Jkp (by omega) p) (.eq (JnY (by omega) p) (.eq g1 (.eq g2 ?_)))))
    rw [if_neg (by simp)]
    refine .eq (Jnz hlen) ?_
    rw [if_pos (by simp), if_pos (by simp), if_pos (by simp), if_pos (by simp), if_neg (by simp)]
    unfold J67
    rw [wrap64 (by omega) (by omega)]
    exact .some (.inl ⟨_, rfl, ⟨by dsimp only; omega, by dsimp only; omega, hb2⟩, by dsimp only; omega⟩)
   have hm : 0 ≤ Jj5 j 0 ∧ Jj5 j 0 < 64 := by unfold Jj5; split <;> omega
   exact .bind (JpU hb' hm.1 hm.2) fun r1 ⟨h1, _⟩ => .bind (J7W h1 (by omega) (by omega)) fun r2 ⟨h2, _⟩ => .both (key2 _ _ h2) (key2 _ _ h2)
  exact .both (key _) (key _)
 ·refine .map (Q := fun r => ∃ b'', r = .inl (k + 1, b'') ∧ J0c b'') ?_ (fun r hr => .inr ⟨r, rfl, hr⟩)
  unfold J6e
  rw [wrap64 (by omega) (by omega)]
  exact .some ⟨b', rfl, hb'⟩
theorem Jgb {l : List Int} {id : Int} {s : List UInt8} {q1 q2 : Prop} (h : List.length l ≤ maxLen ∧ ∀ x ∈ l, 0 ≤ x ∧ x ≤ 255) (_ : q1) (_ : q2) : J42 l id s = some true := by
 have key : Tot (J42 l id s) fun r => r = true := by
  unfold J42
  refine .eq Jw2 ?_
  rw [if_pos rfl]
  refine .ite (fun _ => .some rfl) (fun _ => ?_)
  obtain ⟨b, e, hb⟩ := JuK h (n := 400) (by omega)
  refine .eq e (.bind (JuI hb) fun r1 ⟨h1, q1, q2⟩ => .bind (Jxv h1 q1 q2) fun r2 ⟨h2, q3⟩ => ?_)
  have hl1 : r1.1.Copies.length ≤ 64 := by have := q1.len; omega
  unfold J8e
  refine Jik (fun s : Int × T_pagemenddraw_Codes => ∃ k : Nat, k ≤ 2 ∧ s.1 = k ∧ J0c s.2) (fun s => (2 - s.1).toNat) _ ?_ ⟨0, by decide, rfl, h2⟩
  rintro ⟨j, b'⟩ ⟨k, hk, rfl, hb'⟩
  dsimp only at *
  unfold J4w
  refine .ite (fun hlt => ?_) (fun hge => ?_)
  ·have hlt : k < 2 := by
    have : (k : Int) < (([r1.1, r2.1] : List T_api_Image).length : Int) := by simpa using hlt
    simp at this; omega
   have hall : ∀ y : T_api_Image, y.Copies.length ≤ 64 → idx ([r1.1, r2.1] : List T_api_Image) (k : Int) = some y → Tot (Option.bind (idx ([r1.1, r2.1] : List T_api_Image) (k : Int)) fun y2 =>
      Option.bind (J0u y2) fun r5 => Option.bind (J1Z y2) fun r9 => if (r5 == r9) then
       Option.bind (J4Z y2) fun r14 => Option.bind (J51 y2) fun r18 => if (r14 == r18) then
        Option.bind (J3M y2 y2) fun r23 => if r23 then
         Option.bind (J3M r1.1 y2) fun r28 => Option.bind (J4m r1.1 y2) fun r32 => if (r28 == r32) then
          J4s id s ([r1.1, r2.1] : List T_api_Image) ((List.length ([r1.1, r2.1] : List T_api_Image) : Nat) : Int) (k : Int) r1.1 y2 ((-1), b')
         else some (.inr false)
        else some (.inr false)
       else some (.inr false)
      else some (.inr false)) fun r => (∃ s' : Int × T_pagemenddraw_Codes, r = .inl s' ∧ (∃ k : Nat, k ≤ 2 ∧ s'.1 = k ∧ J0c s'.2) ∧ (2 - s'.1).toNat < (2 - (k : Int)).toNat) ∨ ∃ x, r = .inr x ∧ x = true := by
    intro y hy ey
    obtain ⟨w, w1, w2, _⟩ := Jr1 (x := y) (by omega)
    refine .eq ey (.eq (J2z y (by omega)) (.eq (J5p y (by omega)) ?_))
    rw [if_pos (by simp)]
    refine .eq w1 (.eq w2 ?_)
    rw [if_pos (by simp)]
    refine .eq (Jkd (by omega)) ?_
    rw [if_pos (by simp)]
    refine .eq (Jkd (by omega)) (.eq (Jnz (by omega)) ?_)
    rw [if_pos (by simp)]
    refine (Jpu hy hb' id s _ _ (k : Int) (by omega)).mono ?_
    rintro _ ⟨b'', rfl, hb''⟩
    exact .inl ⟨_, rfl, ⟨k + 1, by omega, by simp, hb''⟩, by dsimp only; omega⟩
   match k, hlt with
   | 0, _ => exact hall r1.1 hl1 rfl
   | 1, _ => exact hall r2.1 q3 rfl
  ·unfold J68
   exact .some (.inr ⟨_, rfl, rfl⟩)
 obtain ⟨r, e, rfl⟩ := key
 exact e
end Go.Am
end
section
namespace Go.Am
section
variable (P : Program)
def Jbf : Nat → TypeId → Bool
 | 0, _ => false
 | n + 1, t => match P.underlying t with
  | some .bool => true
  | some (.int _) => true
  | some .string => true
  | some (.slice e) => Jbf n e && decide (t < P.types.size ∧ 0 < P.cellsOf e)
  | some (.struct fs) => fs.toList.all (fun f => Jbf n f.type) && decide (t < P.types.size)
  | some (.array _ e) => Jbf n e && decide (t < P.types.size)
  | _ => false
def JaC : Nat → TypeId → List PV → Prop
 | 0, _, _ => False
 | n + 1, t, pvs => match P.underlying t with
  | some .bool => ∃ b, pvs = [.b b]
  | some (.int k) => ∃ z, pvs = [.i k z] ∧ (Lit.int k z).wf = true
  | some .string => ∃ l, pvs = [.s l] ∧ l.length ≤ maxLen
  | some (.slice e) => ∃ rows, pvs = [.sl (P.cellsOf e) rows] ∧ rows.length ≤ maxLen ∧ ∀ row ∈ rows, row.length = P.cellsOf e ∧ JaC n e row
  | some (.struct fs) => pvs.length = P.cellsOf t ∧ ∀ f ∈ fs.toList, JaC n f.type ((pvs.drop f.offset).take (P.cellsOf f.type))
  | some (.array m e) => pvs.length = P.cellsOf t ∧ ∀ i, i < m → JaC n e ((pvs.drop (i * P.cellsOf e)).take (P.cellsOf e))
  | _ => False
end
section
variable {H : Type} {enc : TypeId × Value → H} {P : Program} {w : World} {base : Nat} {sp : Nat → Bool} {held : Bool}
def JqZ (w : World) (pvs : List PV) (cs : List Value) : Prop :=
 pvs.length = cs.length ∧ ∀ (i : Nat) p v, pvs[i]? = some p → cs[i]? = some v → JW w (fun r _ => r < w.heap.size) p v
theorem JgT {a : Addr} {v : Value} (h : w.cell? a = some v) : a.spot = none ∧ J0g w a.block a.off = some v ∧ a.block < w.heap.size := by
 unfold World.cell? at h
 unfold J0g
 split at h
 ·rename_i c t fz hb
  split at h
  ·cases h
  ·rename_i hs
   refine ⟨by simpa using hs, by rw [hb]; exact h, ?_⟩
   have := Array.getElem?_eq_some_iff.1 hb
   exact this.1
 ·cases h
theorem JsX {a : Addr} {n : Nat} {cs : List Value} (h : w.cells? base a n = some cs) : cs.length = n ∧ ∀ i v, cs[i]? = some v → w.cell? (a.add i) = some v := by
 unfold World.cells? at h
 split at h
 ·have hl := mapM_some_length h
  refine ⟨by simpa using hl, fun i v hv => ?_⟩
  have hi : i < n := by
   have := (List.getElem?_eq_some_iff.1 hv).1
   simp at hl; omega
  have := mapM_some_get h i i (by simp [hi])
  rw [this, hv]
 ·cases h
theorem Jji {α : Type} (Q : Nat → α → Prop) : ∀ (m : Nat), (∀ i, i < m → ∃ x, Q i x) → ∃ xs : List α, xs.length = m ∧ ∀ i x, xs[i]? = some x → Q i x
 | 0, _ => ⟨[], rfl, fun i x h => by simp at h⟩
 | m + 1, h => by
  obtain ⟨xs, hl, hx⟩ := Jji Q m (fun i hi => h i (by omega))
  obtain ⟨y, hy⟩ := h m (by omega)
  refine ⟨xs ++ [y], by simp [hl], fun i x hi => ?_⟩
  rcases Nat.lt_or_ge i xs.length with hlt | hge
  ·rw [List.getElem?_append_left hlt] at hi; exact hx i x hi
  ·rw [List.getElem?_append_right hge] at hi
   have : i - xs.length = 0 := by
    have := (List.getElem?_eq_some_iff.1 hi).1
    simp at this; omega
   rw [this] at hi
   simp at hi; subst hi
   obtain rfl : i = m := by omega
   exact hy
theorem Jg4 {α : Type} : ∀ (xs : List (List α)) (j : Nat) (y : List α), xs[j]? = some y → (xs.flatten.drop ((xs.take j).map List.length).sum).take y.length = y
 | [], j, y, h => by simp at h
 | x :: xs, 0, y, h => by simp at h; subst h; simp
 | x :: xs, j + 1, y, h => by
  simp at h
  have := Jg4 xs j y h
  simp only [List.take_succ_cons, List.map_cons, List.sum_cons, List.flatten_cons, List.drop_length_add_append]
  exact this
theorem JuJ (hl : laidOutB P = true) (hm : mapsRowed P = true) : ∀ (n : Nat) (t : TypeId) (cs : List Value) (x : DataW H × List MemPlace) (fuel : Nat), Jbf P n t = true → DataW.trod enc P w base sp held fuel t cs = some x →
  ∃ pvs, JaC P n t pvs ∧ JqZ w pvs cs := by
 have K := kids_rows hl hm
 intro n
 induction n with
 | zero => intro t cs x fuel hp; simp [Jbf] at hp
 | succ n ih =>
  intro t cs x fuel hp h
  unfold Jbf at hp
  unfold JaC
  split at hp
  ·rename_i ht
   obtain ⟨b, rfl, _⟩ := DataW.trod_bool ht h
   refine ⟨[.b b], by simp, rfl, fun i p v h1 h2 => ?_⟩
   match i with
   | 0 => simp at h1 h2; subst h1 h2; exact .b _
   | i + 1 => simp at h1
  ·rename_i k ht
   obtain ⟨z, rfl, _, hwf⟩ := DataW.trod_int ht h
   refine ⟨[.i k z], by simpa using hwf, rfl, fun i p v h1 h2 => ?_⟩
   match i with
   | 0 => simp at h1 h2; subst h1 h2; exact .i _ _
   | i + 1 => simp at h1
  ·rename_i ht
   obtain ⟨s, rfl, _, hsz⟩ := DataW.trod_string ht h
   refine ⟨[.s s.data.toList], ⟨_, rfl, by rw [Array.length_toList]; exact hsz⟩, rfl, fun i p v h1 h2 => ?_⟩
   match i with
   | 0 => simp at h1 h2; subst h1 h2; exact .s _
   | i + 1 => simp at h1
  ·rename_i e ht
   simp only [Bool.and_eq_true, decide_eq_true_eq] at hp
   rcases DataW.trod_slice ht h with ⟨rfl, _⟩ | ⟨a, len, cap, elems, rest, n0, _, rfl, _, _, hlc, hcm, hel, hat, _⟩
   ·refine ⟨[.sl (P.cellsOf e) []], ⟨[], rfl, Nat.zero_le _, by simp⟩, rfl, fun i p v h1 h2 => ?_⟩
    match i with
    | 0 => simp at h1 h2; subst h1 h2; exact .sl0 _ _ _
    | i + 1 => simp at h1
   ·
    have hrow : ∀ i, i < len → ∃ row : List PV, (row.length = P.cellsOf e ∧ JaC P n e row) ∧ ∀ j p, row[j]? = some p → ∃ v, w.cell? (a.add (i * P.cellsOf e) |>.add j) = some v ∧ JW w (fun r _ => r < w.heap.size) p v := by
     intro i hi
     have h1 := hat i hi
     have h2 : ∃ y, elems[i]? = some y := ⟨_, List.getElem?_eq_getElem (by omega)⟩
     obtain ⟨y, hy⟩ := h2
     rw [hy, Option.bind_eq_some_iff] at h1
     obtain ⟨cs', hc, ht'⟩ := h1
     obtain ⟨row, q1, q2, q3⟩ := ih e cs' y n0 hp.1 ht'
     obtain ⟨c1, c2⟩ := JsX hc
     refine ⟨row, ⟨by omega, q1⟩, fun j p hj => ?_⟩
     have hlt : j < cs'.length := by have := (List.getElem?_eq_some_iff.1 hj).1; omega
     have hv := List.getElem?_eq_getElem hlt
     exact ⟨_, c2 j _ hv, q3 j p _ hj hv⟩
    obtain ⟨rows, hrl, hrows⟩ := Jji _ len hrow
    refine ⟨[.sl (P.cellsOf e) rows], ⟨rows, rfl, by omega, fun row hr => ?_⟩, rfl, fun i p v h1 h2 => ?_⟩
    ·obtain ⟨i, hi⟩ := List.getElem?_of_mem hr
     exact (hrows i row hi).1
    match i with
    | i + 1 => simp at h1
    | 0 =>
     simp at h1 h2; subst h1 h2
     by_cases h0 : ∃ (i j : Nat) (row : List PV) (p : PV), rows[i]? = some row ∧ row[j]? = some p
     ·obtain ⟨i0, j0, row0, p0, hr0, hp0⟩ := h0
      have spot : a.spot = none ∨ P.cellsOf e = 0 := by
       rcases Nat.eq_zero_or_pos (P.cellsOf e) with hz | hpos
       ·exact .inr hz
       ·have hlen : 0 < len := by have := (List.getElem?_eq_some_iff.1 hr0).1; omega
        have hr00 := List.getElem?_eq_getElem (l := rows) (i := 0) (by omega)
        have q := hrows 0 _ hr00
        have hj0 := List.getElem?_eq_getElem (l := rows[0]'(by omega)) (i := 0) (by omega)
        obtain ⟨v, hv, _⟩ := q.2 0 _ hj0
        rw [Nat.zero_mul] at hv
        exact .inl (by simpa [Addr.add] using (JgT hv).1)
      rcases spot with spot | hz
      ·have cell : ∀ (i j : Nat) (row : List PV) (p : PV), rows[i]? = some row → row[j]? = some p → ∃ v, (a.block < w.heap.size ∧ J0g w a.block (a.off + i * P.cellsOf e + j) = some v) ∧ JW w (fun r _ => r < w.heap.size) p v := by
        intro i j row p hi hj
        obtain ⟨v, hv, hr⟩ := (hrows i row hi).2 j p hj
        obtain ⟨s1, s2, s3⟩ := JgT hv
        refine ⟨v, ?_, hr⟩
        have e1 : ((a.add (i * P.cellsOf e)).add j).block = a.block := by unfold Addr.add; split <;> split <;> rfl
        have e2 : ((a.add (i * P.cellsOf e)).add j).off = a.off + i * P.cellsOf e + j := by
         unfold Addr.add
         split <;> split <;> simp_all
        rw [e1] at s3
        rw [e1, e2] at s2
        exact ⟨s3, s2⟩
       have ea : a = ⟨a.block, a.off, none⟩ := by cases a; simp_all
       rw [ea, ← hrl]
       refine .sl _ rows a.block a.off cap (fun i j => ((J0g w a.block (a.off + i * P.cellsOf e + j)).getD default)) (by omega) (fun row hr => ?_) (fun i j row p hi hj => ?_) (fun i j row p hi hj => ?_)
       ·obtain ⟨i, hi⟩ := List.getElem?_of_mem hr
        exact (hrows i row hi).1.1
       ·obtain ⟨v, ⟨h3, h4⟩, _⟩ := cell i j row p hi hj
        exact ⟨h3, by rw [h4]; rfl⟩
       ·obtain ⟨v, ⟨h3, h4⟩, h5⟩ := cell i j row p hi hj
        rw [h4]; exact h5
      ·have := (hrows i0 row0 hr0).1.1
       have := (List.getElem?_eq_some_iff.1 hp0).1
       omega
     ·
      rcases Nat.eq_zero_or_pos len with hz | hpos
      ·have : rows = [] := by cases rows <;> simp_all
       subst this
       subst hz
       exact .sl0 _ _ _
      ·exfalso
       have hr00 := List.getElem?_eq_getElem (l := rows) (i := 0) (by omega)
       have q := (hrows 0 _ hr00).1.1
       exact h0 ⟨0, 0, _, _, hr00, List.getElem?_eq_getElem (by omega)⟩
  ·rename_i fs ht
   simp only [Bool.and_eq_true, decide_eq_true_eq, List.all_eq_true] at hp
   obtain ⟨xs, n0, _, _, hcl, hxl, hat⟩ := DataW.trod_struct ht h
   obtain ⟨_, ksum, koff⟩ := K.struct hp.2 ht
   have hf : ∀ i, i < fs.toList.length → ∃ ys : List PV, ∀ f, fs.toList[i]? = some f → JaC P n f.type ys ∧ JqZ w ys ((cs.drop f.offset).take (P.cellsOf f.type)) := by
    intro i hi
    have hfi := List.getElem?_eq_getElem hi
    have hmem := List.mem_of_getElem? hfi
    have hfa : fs[i]? = some (fs.toList[i]) := by rw [← Array.getElem?_toList]; exact hfi
    have h1 := hat i _ hfa
    have h2 : ∃ y, xs[i]? = some y := ⟨_, List.getElem?_eq_getElem (by simpa [hxl] using hi)⟩
    obtain ⟨y, hy⟩ := h2
    rw [hy] at h1
    obtain ⟨ys, q1, q2⟩ := ih _ _ _ _ (hp.1 _ hmem) h1
    refine ⟨ys, fun f hff => ?_⟩
    rw [hfi] at hff; injection hff with hff; subst hff
    exact ⟨q1, q2⟩
   obtain ⟨yss, hyl, hys⟩ := Jji _ _ hf
   have hlen : ∀ (j : Nat) (f : Field), fs.toList[j]? = some f → ∀ ys : List PV, yss[j]? = some ys → ys.length = P.cellsOf f.type := by
    intro j f hj ys hy
    have q := (hys j ys hy f hj).2.1
    have o := koff j f hj
    rw [q, List.length_take, List.length_drop, hcl, ksum, o]
    have : ((fs.toList.take j).map fun f => P.cellsOf f.type).sum + P.cellsOf f.type ≤ (fs.toList.map fun f => P.cellsOf f.type).sum := by
     have e1 : fs.toList = fs.toList.take j ++ (f :: fs.toList.drop (j + 1)) := by
      have hjl := (List.getElem?_eq_some_iff.1 hj)
      obtain ⟨hjl, he⟩ := hjl
      rw [← he, ← List.drop_eq_getElem_cons hjl, List.take_append_drop]
     conv => rhs; rw [e1]
     simp only [List.map_append, List.map_cons, List.sum_append, List.sum_cons]
     omega
    omega
   have hmapl : yss.map List.length = fs.toList.map fun f => P.cellsOf f.type := by
    apply List.ext_getElem?
    intro j
    rw [List.getElem?_map, List.getElem?_map]
    cases hy : yss[j]? with
    | none =>
     have : fs.toList[j]? = none := by rw [List.getElem?_eq_none_iff] at hy ⊢; omega
     rw [this]; rfl
    | some ys =>
     have hj : j < fs.toList.length := by have := (List.getElem?_eq_some_iff.1 hy).1; omega
     have hfj := List.getElem?_eq_getElem hj
     rw [hfj]
     simp only [Option.map_some]
     rw [hlen j _ hfj ys hy]
   have hoff : ∀ (j : Nat) (f : Field), fs.toList[j]? = some f → ((yss.take j).map List.length).sum = f.offset := by
    intro j f hj
    rw [koff j f hj, List.map_take, hmapl, ← List.map_take]
   refine ⟨yss.flatten, ⟨?_, fun f hf => ?_⟩, ?_, fun i p v h1 h2 => ?_⟩
   ·rw [List.length_flatten, hmapl, ksum]
   ·obtain ⟨j, hj⟩ := List.getElem?_of_mem hf
    have hjl : j < yss.length := by have := (List.getElem?_eq_some_iff.1 hj).1; omega
    have hyj := List.getElem?_eq_getElem hjl
    have := Jg4 yss j _ hyj
    rw [hoff j f hj, hlen j f hj _ hyj] at this
    rw [this]
    exact (hys j _ hyj f hj).1
   ·rw [List.length_flatten, hmapl, hcl, ksum]
   ·
    have key : ∀ (l : List (List PV)) (i : Nat) p, l.flatten[i]? = some p → ∃ j ys k, l[j]? = some ys ∧ ys[k]? = some p ∧ i = ((l.take j).map List.length).sum + k := by
     intro l
     induction l with
     | nil => intro i p h; simp at h
     | cons y l ihl =>
      intro i p h
      rw [List.flatten_cons] at h
      rcases Nat.lt_or_ge i y.length with hlt | hge
      ·rw [List.getElem?_append_left hlt] at h
       exact ⟨0, y, i, rfl, h, by simp⟩
      ·rw [List.getElem?_append_right hge] at h
       obtain ⟨j, ys, k, a1, a2, a3⟩ := ihl _ _ h
       exact ⟨j + 1, ys, k, by simpa using a1, a2, by simp only [List.take_succ_cons, List.map_cons, List.sum_cons]; omega⟩
    obtain ⟨j, ys, k, a1, a2, a3⟩ := key _ _ _ h1
    have hj : j < fs.toList.length := by have := (List.getElem?_eq_some_iff.1 a1).1; omega
    have hfj := List.getElem?_eq_getElem hj
    have q := (hys j ys a1 _ hfj).2
    refine q.2 k p v a2 ?_
    have hk : k < P.cellsOf (fs.toList[j]).type := by have := (List.getElem?_eq_some_iff.1 a2).1; rw [hlen j _ hfj ys a1] at this; exact this
    rw [List.getElem?_take_of_lt hk, List.getElem?_drop, ← hoff j _ hfj, ← a3]
    exact h2
  ·rename_i m e ht
   simp only [Bool.and_eq_true, decide_eq_true_eq] at hp
   obtain ⟨xs, n0, _, _, hcl, hxl, hat⟩ := DataW.trod_array ht h
   obtain ⟨_, ksz⟩ := K.array hp.2 ht
   have hf : ∀ i, i < m → ∃ ys : List PV, JaC P n e ys ∧ JqZ w ys ((cs.drop (i * P.cellsOf e)).take (P.cellsOf e)) := by
    intro i hi
    have h1 := hat i hi
    have h2 : ∃ y, xs[i]? = some y := ⟨_, List.getElem?_eq_getElem (by omega)⟩
    obtain ⟨y, hy⟩ := h2
    rw [hy] at h1
    exact ih _ _ _ _ hp.1 h1
   obtain ⟨yss, hyl, hys⟩ := Jji _ _ hf
   have hlen : ∀ (j : Nat) ys, yss[j]? = some ys → ys.length = P.cellsOf e := by
    intro j ys hy
    have q := (hys j ys hy).2.1
    have hj : j < m := by have := (List.getElem?_eq_some_iff.1 hy).1; omega
    rw [q, List.length_take, List.length_drop, hcl, ksz]
    have : j * P.cellsOf e + P.cellsOf e ≤ m * P.cellsOf e := by rw [← Nat.succ_mul]; exact Nat.mul_le_mul_right _ hj
    omega
   have hall : ∀ y ∈ yss, y.length = P.cellsOf e := fun y hy => by
    obtain ⟨j, hj⟩ := List.getElem?_of_mem hy
    exact hlen j y hj
   have hsum : ∀ l : List (List PV), (∀ y ∈ l, y.length = P.cellsOf e) → (l.map List.length).sum = l.length * P.cellsOf e := by
    intro l
    induction l with
    | nil => intro _; simp
    | cons y l ihl => intro hh; simp [hh y (by simp), ihl (fun z hz => hh z (by simp [hz])), Nat.succ_mul, Nat.add_comm]
   have hoff : ∀ j, j ≤ m → ((yss.take j).map List.length).sum = j * P.cellsOf e := by
    intro j hj
    rw [hsum _ (fun y hy => hall y (List.mem_of_mem_take hy)), List.length_take, hyl, Nat.min_eq_left hj]
   refine ⟨yss.flatten, ⟨?_, fun j hj => ?_⟩, ?_, fun i p v h1 h2 => ?_⟩
   ·rw [List.length_flatten, hsum _ hall, hyl, ksz]
   ·have hyj := List.getElem?_eq_getElem (l := yss) (i := j) (by omega)
    have := Jg4 yss j _ hyj
    rw [hoff j (by omega), hlen j _ hyj] at this
    rw [this]
    exact (hys j _ hyj).1
   ·rw [List.length_flatten, hsum _ hall, hcl, hyl, ksz]
   ·have key : ∀ (l : List (List PV)) (i : Nat) p, l.flatten[i]? = some p → ∃ j ys k, l[j]? = some ys ∧ ys[k]? = some p ∧ i = ((l.take j).map List.length).sum + k := by
     intro l
     induction l with
     | nil => intro i p h; simp at h
     | cons y l ihl =>
      intro i p h
      rw [List.flatten_cons] at h
      rcases Nat.lt_or_ge i y.length with hlt | hge
      ·rw [List.getElem?_append_left hlt] at h
       exact ⟨0, y, i, rfl, h, by simp⟩
      ·rw [List.getElem?_append_right hge] at h
       obtain ⟨j, ys, k, a1, a2, a3⟩ := ihl _ _ h
       exact ⟨j + 1, ys, k, by simpa using a1, a2, by simp only [List.take_succ_cons, List.map_cons, List.sum_cons]; omega⟩
    obtain ⟨j, ys, k, a1, a2, a3⟩ := key _ _ _ h1
    have hj : j < m := by have := (List.getElem?_eq_some_iff.1 a1).1; omega
    have q := (hys j ys a1).2
    refine q.2 k p v a2 ?_
    have hk : k < P.cellsOf e := by have := (List.getElem?_eq_some_iff.1 a2).1; rw [hlen j ys a1] at this; exact this
    rw [List.getElem?_take_of_lt hk, List.getElem?_drop, ← hoff j (by omega), ← a3]
    exact h2
  ·cases hp
end
end Go.Am
end
section
namespace Go.Am
open Go.ChangeShapes Go.WideShapes Go.ChangeAt Go.RowKit
def gh0 (w : World) : Gh := ⟨fun _ => none, fun r _ => r < w.heap.size⟩
theorem JkP (g : Gh) (w : World) (b r o : Nat) : ¬ Wr1 ⟨[], g, w⟩ b r o := by
 unfold Wr1; simp
theorem Jy9 (w : World) : Inv ⟨[], gh0 w, w⟩ where
 box := fun b cs h => by simp at h
 arr := fun b wm esz rows h => by simp at h
 apart := fun b1 b2 r o h => absurd h (JkP _ _ _ _ _)
 const := fun r o h => ⟨h, fun b => JkP _ _ _ _ _⟩
def Jdg (w w' : World) : Prop := Jc2 (fun _ _ => False) w w'
theorem Jdg.kept {w w' : World} (h : Jdg w w') (may : MemPlace → Prop) : w.keptBut w' may := by
 obtain ⟨h1, h2, h3, h4, h5⟩ := h
 refine ⟨h4, h5, fun i hi => ?_⟩
 have hg := Array.getElem?_eq_getElem hi
 cases hw : w.heap[i]? with
 | none => rw [hg] at hw; cases hw
 | some x =>
  cases x with
  | cells c e fz =>
   obtain ⟨c', q1, q2, q3⟩ := h2 i c e fz hw
   rw [q1]
   exact ⟨rfl, rfl, q2, fun j _ => q3 j (fun hf => hf)⟩
  | map es clock =>
   have := h3 i _ hw (fun c e fz he => by cases he)
   rw [this]
   exact .inr ⟨rfl, rfl⟩
  | _ =>
   have := h3 i _ hw (fun c e fz he => by cases he)
   rw [this]
theorem Jdg.same {w w' : World} (h : Jdg w w') {p : MemPlace} (hp : p.block < w.heap.size) : w.sameAt w' p := by
 obtain ⟨h1, h2, h3, h4, h5⟩ := h
 cases p with
 | cell b off =>
  have hb : b < w.heap.size := hp
  have hg := Array.getElem?_eq_getElem hb
  show w'.cell? ⟨b, off, none⟩ = w.cell? ⟨b, off, none⟩
  rw [J5E, J5E]
  unfold J0g
  cases hw : w.heap[b]? with
  | none => rw [hg] at hw; cases hw
  | some x =>
   cases x with
   | cells c e fz =>
    obtain ⟨c', q1, q2, q3⟩ := h2 b c e fz hw
    rw [q1]
    exact q3 off (fun hf => hf)
   | _ =>
    have := h3 b _ hw (fun c e fz he => by cases he)
    rw [this]
 | map b =>
  have hb : b < w.heap.size := hp
  have hg := Array.getElem?_eq_getElem hb
  show w'.heap[b]? = w.heap[b]?
  cases hw : w.heap[b]? with
  | none => rw [hg] at hw; cases hw
  | some x =>
   cases x with
   | cells c e fz =>
    obtain ⟨c', q1, q2, q3⟩ := h2 b c e fz hw
    rw [q1]
    have : c' = c := by
     apply Array.ext_getElem?
     intro i
     exact q3 i (fun hf => hf)
    rw [this]
   | _ => exact h3 b _ hw (fun c e fz he => by cases he)
theorem Jdg.frozen {w w' : World} (h : Jdg w w') {a : Addr} (hp : a.block < w.heap.size) : w'.frozen? a = w.frozen? a := by
 obtain ⟨h1, h2, h3, h4, h5⟩ := h
 have hg := Array.getElem?_eq_getElem hp
 unfold World.frozen?
 cases hw : w.heap[a.block]? with
 | none => rw [hg] at hw; cases hw
 | some x =>
  cases x with
  | cells c e fz =>
   obtain ⟨c', q1, q2, q3⟩ := h2 a.block c e fz hw
   rw [q1]
  | _ =>
   have := h3 a.block _ hw (fun c e fz he => by cases he)
   rw [this]
theorem Jsq {P : Program} {F : Orc} (hF : J64 P F) {f : FuncId} {args : List AV} {vals : Array Value} {w : World} (hl : args.length = vals.size)
  (hr : ∀ (i : Nat) x v, args[i]? = some x → vals[i]? = some v → Jt ⟨[], gh0 w, w⟩ x v) (h : F f args [] = some (.p (.b true), [])) :
  Calls P f vals w fun e w' => e = .returned (.bool true) ∧ Jdg w w' := by
 refine ((hF _ _ _ _ h).2 (gh0 w) w vals (Jy9 w) hl hr).mono fun e w' ⟨v, g', he, _, ht, hrel⟩ => ?_
 cases hrel with
 | p _ _ hrel =>
  cases hrel with
  | b =>
   refine ⟨he, ?_⟩
   obtain ⟨k1, k2, k3, k4⟩ := ht.keep
   refine ⟨k1, fun r c e fz hr => ?_, k3, k4⟩
   obtain ⟨c', q1, q2, q3⟩ := k2 r c e fz hr
   exact ⟨c', q1, q2, fun o _ => q3 o (fun ⟨b, hb⟩ => JkP _ _ _ _ _ hb)⟩
section
variable {H : Type} {enc : TypeId × Value → H} {P : Program}
theorem Jfw (hl : laidOutB P = true) (hm : mapsRowed P = true) (hsz : ∀ {t e : TypeId}, t < P.types.size → P.underlying t = some (.slice e) → 0 < P.cellsOf e) {W W' : World} {sp : Nat → Bool} :
  ∀ {ts : List TypeId} {vs : List Value} {ds : List (DataW H)} {ps : List MemPlace}, (∀ t ∈ ts, t < P.types.size) → DataW.TrodAll enc P W 0 (fun _ => true) true ts vs ds ps →
   (∀ p ∈ ps, W.sameAt W' p) → (∀ p ∈ ps, sp p.block = true) → DataW.TrodAll enc P W' 0 sp true ts vs ds ps
 | [], [], [], _, _, h, _, _ => h
 | [], _ :: _, _, _, _, h, _, _ => h.elim
 | [], [], _ :: _, _, _, h, _, _ => h.elim
 | _ :: _, [], _, _, _, h, _, _ => h.elim
 | _ :: _, _ :: _, [], _, _, h, _, _ => h.elim
 | t :: ts, v :: vs, d :: ds, _, hT, ⟨p, q, ⟨n, h1⟩, h2, rfl⟩, hs, hp => by
  refine ⟨p, q, ⟨n, DataW.trod_stays (kids_rows hl hm) hsz (fun h => by cases h) (hT t (by simp)) h1 (fun x hx => hs x (by simp [hx])) (fun x hx => hp x (by simp [hx]))⟩, ?_, rfl⟩
  exact Jfw hl hm hsz (fun x hx => hT x (by simp [hx])) h2 (fun x hx => hs x (by simp [hx])) (fun x hx => hp x (by simp [hx]))
def JbK (P : Program) : Bool := (List.range P.types.size).all fun t => match P.underlying t with
 | some (.slice e) => decide (0 < P.cellsOf e)
 | _ => true
theorem Joi (h : JbK P = true) {t e : TypeId} (ht : t < P.types.size) (he : P.underlying t = some (.slice e)) : 0 < P.cellsOf e := by
 unfold JbK at h
 rw [List.all_eq_true] at h
 have := h t (by simpa using ht)
 rw [he] at this
 simpa using this
theorem JsP {fn : Func} {s : ChangeSpec} {tb : TypeId} (hl : laidOutB P = true) (hm : mapsRowed P = true) (hsz : JbK P = true) (hpar : ∀ t ∈ fn.params.toList, t < P.types.size)
  (hres : fn.resultTypes = #[tb]) (htb : P.underlying tb = some .bool) (hvars : s.vars = []) {apart fresh handsOn again : Bool} {W W' : World} {args : Array Value} {ds gs : List (DataW H)} {before : List MemPlace}
  (hfn : gs = [] → s.fn H (ds ++ gs) = { results := [.lit (.bool true)], args := ds })
  (hW : DataW.Whole enc P fn.params.toList s.vars apart W args.toList ds gs before) (hst : Jdg W W') : s.post enc P fn apart fresh handsOn again W args (.bool true) W' := by
 have hW0 := hW
 have hlt := hW.lt
 obtain ⟨p, q, h1, h2, rfl, hz, hn⟩ := hW
 rw [hvars] at h2
 obtain ⟨rfl, rfl⟩ := trodVars_none h2
 rw [List.append_nil] at hW0 hlt hz hn
 have hf := hfn rfl
 have hargs : ∀ sp : Nat → Bool, (∀ x ∈ p, sp x.block = true) → DataW.TrodAll enc P W' 0 sp true fn.params.toList args.toList ds p := fun sp hp =>
  Jfw hl hm (fun ht he => Joi hsz ht he) hpar h1 (fun x hx => hst.same (hlt x hx)) hp
 have hr : ∀ (b : Nat) (sp : Nat → Bool) (hd : Bool), DataW.TrodAll enc P W' b sp hd fn.resultTypes.toList ((Value.bool true).resultList fn.resultTypes.size) [.lit (.bool true)] [] := by
  intro b sp hd
  rw [hres]
  exact trodAll_cons_mk (shut_bool htb _) trodAll_mk0
 refine ⟨ds, [], p, [], p, [], hW0, ?_, ?_, ?_, hst.kept _, fun _ => ⟨?_, ?_⟩⟩
 ·rw [hf]; exact hr _ _ _
 ·rw [hf]; exact hargs _ (fun x hx => by simpa using hlt x hx)
 ·rw [hf, hvars]; rfl
 ·exact ok_one hres rfl (okWide_bool_mk htb _)
 ·refine ⟨_, [], [] ++ p, ⟨[] ++ p, [], trodAll_append (hargs _ (fun _ _ => rfl)) (hr _ _ _), by rw [hvars]; rfl, by simp, fun b off hp => ?_, fun ha => by simpa using hn ha⟩, fun x hx _ => by simpa using hx⟩
  have hp' : MemPlace.cell b off ∈ p := by simpa using hp
  rw [hst.frozen (a := ⟨b, off, none⟩) (hlt _ hp')]
  exact hz b off hp'
def Jgs (P : Program) (t : TypeId) (pvs : List PV) : AV := match P.underlying t with
 | some (.struct _) => .data pvs
 | some (.array _ _) => .data pvs
 | _ => match pvs with
  | [c] => .p c
  | _ => .unk
theorem Jl8 (hl : laidOutB P = true) (hm : mapsRowed P = true) {n : Nat} {t : TypeId} {w : World} {r : Reach} {base : Nat} {sp : Nat → Bool} {v : Value} {d : DataW H} {ps : List MemPlace} (hp : Jbf P n t = true)
  (hv : Value.okWide P w r base t v) (h : DataW.Trod enc P w 0 sp true t v d ps) : ∃ pvs, JaC P n t pvs ∧ Jt ⟨[], gh0 w, w⟩ (Jgs P t pvs) v := by
 obtain ⟨fuel, h⟩ := h
 obtain ⟨pvs, q1, q2, q3⟩ := JuJ hl hm n t _ _ fuel hp h
 refine ⟨pvs, q1, ?_⟩
 cases n with
 | zero => simp [Jbf] at hp
 | succ n =>
  unfold Jbf at hp
  unfold Value.okWide at hv
  unfold Jgs
  have one : ∀ {c : PV}, pvs = [c] → (∀ cs, v ≠ .agg cs) → Jt ⟨[], gh0 w, w⟩ (.p c) v := by
   intro c hc hne
   subst hc
   refine .p _ _ (q3 0 c v rfl ?_)
   cases v <;> first | rfl | exact absurd rfl (hne _)
  unfold JaC at q1
  split at hp
  ·rename_i ht
   rw [ht] at q1 hv ⊢
   obtain ⟨b, rfl⟩ := q1
   exact one rfl (fun cs he => by subst he; simp [Cell.okWide, Cell.ok, ht] at hv)
  ·rename_i k ht
   rw [ht] at q1 hv ⊢
   obtain ⟨z, rfl, _⟩ := q1
   exact one rfl (fun cs he => by subst he; simp [Cell.okWide, Cell.ok, ht] at hv)
  ·rename_i ht
   rw [ht] at q1 hv ⊢
   obtain ⟨z, rfl, _⟩ := q1
   exact one rfl (fun cs he => by subst he; simp [Cell.okWide, Cell.ok, ht] at hv)
  ·rename_i e ht
   rw [ht] at q1 hv ⊢
   obtain ⟨rows, rfl, _⟩ := q1
   exact one rfl (fun cs he => by subst he; simp [Cell.okWide, Cell.ok, ht] at hv)
  ·rename_i fs ht
   rw [ht] at hv ⊢
   obtain ⟨cs, rfl, _⟩ := hv
   exact .data _ _ (by simpa [Value.cells] using q2) (fun i x v h1 h2 => q3 i x v h1 (by simpa [Value.cells] using h2))
  ·rename_i m e ht
   rw [ht] at hv ⊢
   obtain ⟨cs, rfl, _⟩ := hv
   exact .data _ _ (by simpa [Value.cells] using q2) (fun i x v h1 h2 => q3 i x v h1 (by simpa [Value.cells] using h2))
  ·cases hp
end
end Go.Am
end
