/-
  Parts of a proof.
-/
import Derived.ChangeArms
import Derived.OpenShut
import Derived.ChangeBears
import Derived.ChangeStays
import Derived.Handed
import Derived.RowKit3
import Derived.WalkKit
import Derived.ProofKit
import Derived.Test.YtiallbcnaadmoaaM4
import Derived.Test.YtiallbcnaadmoaaM11
set_option linter.unusedSimpArgs false
set_option linter.unusedVariables false
section
namespace Go.Am
theorem JbU {p : T_api_Page} (hp : J5Q p) : (J2P p).length = 244 := by
 have hd : ∀ c ∈ p.Cells.toList, c.Data.length ≤ 12 := by
  intro c hc
  obtain ⟨i, hi, rfl⟩ := List.getElem_of_mem hc
  have h16 : i < 16 := by simpa using hi
  have := (hp.cells i h16).1
  simpa using this
 unfold J2P
 simp only [List.length_append, Jp, List.length_replicate]
 rw [Jbz hd]
 simp
end Go.Am
end
section
namespace Go.Am
end Go.Am
end
section
namespace Go.Am
end Go.Am
end
section
namespace Go.Am
def Jg6 (p : T_api_Page) : Prop := ∀ (i : Nat) (h : i < 16), J5s p.LSN p.Cells[i]
theorem Jkr (p : T_api_Page) : ∃ b, J50 p = some b ∧ (b = true ↔ Jg6 p) := by
 refine J0R (f := fun s : Int => J02 p.Cells p s) (fun s => ∃ j : Nat, s = j ∧ j ≤ 16 ∧ ∀ (i : Nat) (h : i < 16), i < j → J5s p.LSN p.Cells[i]) (fun s => (16 - s).toNat)
  (fun b => b = true ↔ Jg6 p) (fun s ⟨j, hj, h4, hc⟩ => ?_) 0 ⟨0, rfl, by omega, fun i h hh => by omega⟩
 subst hj
 by_cases hlt : j < 16
 ·have e1 : ((j : Nat) : Int) < 16 := by omega
  have e2 := J4F p.Cells j hlt
  have e3 := J2x (show j < 1000000 by omega)
  have bad : ¬ J5s p.LSN p.Cells[j] → (false = true ↔ Jg6 p) := fun h1 => ⟨fun h => (by cases h), fun h2 => (h1 (h2 j hlt)).elim⟩
  have nxt : J5s p.LSN p.Cells[j] → ∀ (i : Nat) (h : i < 16), i < j + 1 → J5s p.LSN p.Cells[i] := by
   intro hok i hi hij
   by_cases hh : i < j
   ·exact hc i hi hh
   ·obtain rfl : i = j := by omega
    exact hok
  by_cases h12 : (((p.Cells[j]).Data.length : Nat) : Int) > 12
  ·right
   exact ⟨false, by simp only [J02, e1, decide_true, if_true, e2, Option.bind_some, h12], bad fun h => by have := h.1; omega⟩
  ·by_cases hs : (p.Cells[j]).Set = true
   ·by_cases hl : p.LSN = 0
    ·right
     exact ⟨false, by simp only [J02, e1, decide_true, if_true, e2, Option.bind_some, h12, decide_false, Bool.false_eq_true, if_false, hs, hl, beq_self_eq_true], bad fun h => h.2.2 hs hl⟩
    ·left
     have e4 : (p.LSN == 0) = false := by simpa using hl
     exact ⟨((j + 1 : Nat) : Int), by simp only [J02, e1, decide_true, if_true, e2, Option.bind_some, h12, decide_false, Bool.false_eq_true, if_false, hs, e4, e3], ⟨j + 1, rfl, by omega, nxt ⟨by omega, (fun h => by rw [hs] at h; cases h), fun _ => hl⟩⟩, by omega⟩
   ·have hs' : (p.Cells[j]).Set = false := by simpa using hs
    by_cases hd : (p.Cells[j]).Data = []
    ·left
     exact ⟨((j + 1 : Nat) : Int), by simp only [J02, e1, decide_true, if_true, e2, Option.bind_some, h12, decide_false, Bool.false_eq_true, if_false, hs', hd, beq_self_eq_true, e3]; rfl, ⟨j + 1, rfl, by omega, nxt ⟨by omega, fun _ => hd, fun h => (hs h).elim⟩⟩, by omega⟩
    ·right
     have e4 : ((p.Cells[j]).Data == []) = false := by simpa using hd
     exact ⟨false, by simp only [J02, e1, decide_true, if_true, e2, Option.bind_some, h12, decide_false, Bool.false_eq_true, if_false, hs', e4], bad fun h => hd (h.2.1 hs')⟩
 ·right
  have e1 : ¬ ((j : Nat) : Int) < 16 := by omega
  exact ⟨true, by simp only [J02, e1, decide_false, Bool.false_eq_true, if_false, J75, Option.map_some], fun _ i h => hc i h (by omega), fun _ => rfl⟩
end Go.Am
end
section
namespace Go.Am
theorem Jft {n : Int} (h0 : 0 ≤ n) (h1 : n ≤ 1000000) : J2e n = some (List.replicate n.toNat 0) := by
 have e : (0 : Int) ≤ n ∧ n ≤ n ∧ ((1 : Nat) : Int) * n ≤ 281474976710656 ∧ n ≤ 281474976710656 := by omega
 have e2 : toStr (List.replicate n.toNat (0 : Int)) = List.replicate n.toNat 0 := by
  simp [toStr]
 unfold J2e mkS
 rw [if_pos e, Option.bind_some, e2]
theorem Jks : J4m = some blk := by
 unfold J4m
 rw [Jft (by omega) (by omega)]
 rfl
theorem Jtr (n : Int) : J7X n = J8R n := rfl
theorem JnJ (p : T_api_Page) : J3W p = J1t p := by
 unfold J3W J1t J1y
 by_cases h1 : p.ID ≥ 0
 ·by_cases h2 : p.ID < 64
  ·simp only [h1, h2, decide_true, if_true, Option.bind_some]
  ·simp only [h1, h2, decide_true, decide_false, if_true, Bool.false_eq_true, if_false, Option.bind_some]
 ·simp only [h1, decide_false, Bool.false_eq_true, if_false, Option.bind_some]
theorem Jpr (p : T_api_Page) : ∃ b, J1t p = some b ∧ (b = true ↔ (0 ≤ p.ID ∧ p.ID < 64 ∧ 0 ≤ p.LSN ∧ p.LSN ≤ 1099511627776)) := by
 unfold J1t J1y
 by_cases h1 : p.ID ≥ 0
 ·by_cases h2 : p.ID < 64
  ·by_cases h3 : p.LSN ≥ 0
   ·refine ⟨decide (p.LSN ≤ 1099511627776), by simp only [h1, h2, h3, decide_true, if_true, Option.bind_some], ?_⟩
    rw [decide_eq_true_eq]
    exact ⟨fun h => ⟨h1, h2, h3, h⟩, fun h => h.2.2.2⟩
   ·exact ⟨false, by simp only [h1, h2, h3, decide_true, decide_false, if_true, Bool.false_eq_true, if_false, Option.bind_some], by simp; omega⟩
  ·exact ⟨false, by simp only [h1, h2, decide_true, decide_false, if_true, Bool.false_eq_true, if_false, Option.bind_some], by simp; omega⟩
 ·exact ⟨false, by simp only [h1, decide_false, Bool.false_eq_true, if_false, Option.bind_some], by simp; omega⟩
theorem JlD (p : T_api_Page) : ∃ b, J5e p = some b ∧ (b = true ↔ Jg6 p) := by
 refine J0R (f := fun s : Int => J1w p s) (fun s => ∃ j : Nat, s = j ∧ j ≤ 16 ∧ ∀ (i : Nat) (h : i < 16), i < j → J5s p.LSN p.Cells[i]) (fun s => (16 - s).toNat)
  (fun b => b = true ↔ Jg6 p) (fun s ⟨j, hj, h4, hc⟩ => ?_) 0 ⟨0, rfl, by omega, fun i h hh => by omega⟩
 subst hj
 by_cases hlt : j < 16
 ·have e1 : ((j : Nat) : Int) < 16 := by omega
  have e2 := J4F p.Cells j hlt
  have e3 := J2x (show j < 1000000 by omega)
  have e0 := J8J hlt
  have bad : ¬ J5s p.LSN p.Cells[j] → (false = true ↔ Jg6 p) := fun h1 => ⟨fun h => (by cases h), fun h2 => (h1 (h2 j hlt)).elim⟩
  have nxt : J5s p.LSN p.Cells[j] → ∀ (i : Nat) (h : i < 16), i < j + 1 → J5s p.LSN p.Cells[i] := by
   intro hok i hi hij
   by_cases hh : i < j
   ·exact hc i hi hh
   ·obtain rfl : i = j := by omega
    exact hok
  by_cases h12 : (((p.Cells[j]).Data.length : Nat) : Int) ≤ 12
  ·by_cases hs : (p.Cells[j]).Set = true
   ·have v1 : J0l p.Cells[j] = some true := by simp only [J0l, h12, decide_true, if_true, hs]
    by_cases hl : p.LSN = 0
    ·right
     exact ⟨false, by simp only [J1w, e1, decide_true, if_true, e0, e2, Option.bind_some, v1, hs, hl, beq_self_eq_true], bad fun h => h.2.2 hs hl⟩
    ·left
     have e4 : (p.LSN == 0) = false := by simpa using hl
     exact ⟨((j + 1 : Nat) : Int), by simp only [J1w, e1, decide_true, if_true, e0, e2, Option.bind_some, v1, e4, Bool.false_eq_true, if_false, e3], ⟨j + 1, rfl, by omega, nxt ⟨by omega, (fun h => by rw [hs] at h; cases h), fun _ => hl⟩⟩, by omega⟩
   ·have hs' : (p.Cells[j]).Set = false := by simpa using hs
    by_cases hd : (p.Cells[j]).Data = []
    ·have v1 : J0l p.Cells[j] = some true := by simp only [J0l, h12, decide_true, if_true, hs', Bool.false_eq_true, if_false]; rw [hd]; rfl
     left
     refine ⟨((j + 1 : Nat) : Int), ?_, ⟨j + 1, rfl, by omega, nxt ⟨by omega, fun _ => hd, fun h => (hs h).elim⟩⟩, by omega⟩
     simp only [J1w, e1, decide_true, if_true, e0, e2, Option.bind_some, v1, hs', Bool.false_eq_true, if_false, e3]
     split <;> rfl
    ·right
     have e4 : ((p.Cells[j]).Data == []) = false := by simpa using hd
     have v1 : J0l p.Cells[j] = some false := by simp only [J0l, h12, decide_true, if_true, hs', Bool.false_eq_true, if_false, e4]
     exact ⟨false, by simp only [J1w, e1, decide_true, if_true, e0, e2, Option.bind_some, v1, Bool.false_eq_true, if_false], bad fun h => hd (h.2.1 hs')⟩
  ·right
   have v1 : J0l p.Cells[j] = some false := by simp only [J0l, h12, decide_false, Bool.false_eq_true, if_false]
   exact ⟨false, by simp only [J1w, e1, decide_true, if_true, e0, e2, Option.bind_some, v1, Bool.false_eq_true, if_false], bad fun h => h12 (by have := h.1; omega)⟩
 ·right
  have e1 : ¬ ((j : Nat) : Int) < 16 := by omega
  exact ⟨true, by simp only [J1w, e1, decide_false, Bool.false_eq_true, if_false, J8d, Option.map_some], fun _ i h => hc i h (by omega), fun _ => rfl⟩
theorem JqI (p : T_api_Page) : J5e p = J50 p := by
 obtain ⟨b, h1, h2⟩ := Jkr p
 obtain ⟨c, h3, h4⟩ := JlD p
 rw [h1, h3]
 congr 1
 cases b <;> cases c <;> simp_all
def Jg5 (p : T_api_Page) : List UInt8 := J2P p ++ Jj ((crc (J2P p) : Nat) : Int) 4 ++ Jj p.LSN 8
theorem JkT {p : T_api_Page} (hp : J5Q p) : J0V p = some (Jg5 p, 0) := by
 obtain ⟨c, h1, h2⟩ := JnM hp
 rw [JdZ _ (by rw [JbU hp]; omega)] at h1
 injection h1 with h1
 subst h1
 have hc := JaU (J2P p)
 rw [wrap64 (by omega) (by omega)] at h2
 exact h2
theorem Jit {p : T_api_Page} (hp : J5Q p) : ∀ (m j : Nat), j + m = 16 →
  Jv (fun s : List UInt8 × Int => J3w p s.1 s.2) (Jj p.LSN 8 ++ Jj p.ID 4 ++ J4z (p.Cells.toList.take j), (j : Int)) = some (Jg5 p, 0) := by
 have hd : ∀ c ∈ p.Cells.toList, c.Data.length ≤ 12 := by
  intro c hc
  obtain ⟨i, hi, rfl⟩ := List.getElem_of_mem hc
  have h16 : i < 16 := by simpa using hi
  have := (hp.cells i h16).1
  simpa using this
 have hlen : ∀ j, j ≤ 16 → (Jj p.LSN 8 ++ Jj p.ID 4 ++ J4z (p.Cells.toList.take j)).length = 12 + 13 * j := by
  intro j hj
  have hl : (J4z (p.Cells.toList.take j)).length = 13 * j := by
   rw [Jbz fun c hc => hd c (List.mem_of_mem_take hc)]
   simp; omega
  simp only [List.length_append, Jp, hl]
 intro m
 induction m with
 | zero =>
  intro j hj
  obtain rfl : j = 16 := by omega
  refine J0N ?_
  have e1 : ¬ (((16 : Nat) : Nat) : Int) < 16 := by omega
  have e5 : p.Cells.toList.take 16 = p.Cells.toList := List.take_of_length_le (by simp)
  have h0 := hlen 16 (by omega)
  rw [e5] at h0 ⊢
  generalize hx : Jj p.LSN 8 ++ Jj p.ID 4 ++ J4z p.Cells.toList = x at h0
  have a0 : IntKind.wrap .i64 (244 - ((x.length : Nat) : Int)) = 24 := by rw [h0, wrap64 (by omega) (by omega)]; omega
  have a1 : J2e 24 = some (List.replicate 24 0) := Jft (n := 24) (by omega) (by omega)
  have a6 : x ++ List.replicate 24 0 = J2P p := by rw [← hx]; rfl
  have a2 : J3z x (List.replicate 24 0) = some (J2P p) := by rw [← a6]; exact J9N (by simp; omega)
  have a3 := Jk1 (J2P p) (by rw [JbU hp]; omega)
  have hc := JaU (J2P p)
  have a7 : IntKind.wrap .i64 ((crc (J2P p) : Nat) : Int) = ((crc (J2P p) : Nat) : Int) := wrap64 (by omega) (by omega)
  have a4 : J1m (J2P p) ((crc (J2P p) : Nat) : Int) 4 = some (J2P p ++ Jj ((crc (J2P p) : Nat) : Int) 4) := J9P _ _ (k := 4) (by omega) (by omega) (by rw [JbU hp]; omega)
  have a5 : J1m (J2P p ++ Jj ((crc (J2P p) : Nat) : Int) 4) p.LSN 8 = some (Jg5 p) := J9P _ _ (k := 8) (by omega) (by omega) (by rw [List.length_append, JbU hp, Jp]; omega)
  simp only [J3w, e1, decide_false, Bool.false_eq_true, if_false, J7B, a0, a1, a2, a3, a7, a4, a5, Option.bind_some, Option.map_some]
 | succ m ih =>
  intro j hj
  have hlt : j < 16 := by omega
  have e1 : ((j : Nat) : Int) < 16 := by omega
  have h0 := hlen j (by omega)
  have e3 : p.Cells.toList.take (j + 1) = p.Cells.toList.take j ++ [p.Cells[j]] := by
   rw [List.take_add_one, List.getElem?_eq_getElem (by simpa using hlt)]
   simp
  have hcl := (hp.cells j hlt).1
  have go : ∀ n : Int, n = (if (p.Cells[j]).Set then ((p.Cells[j]).Data.length : Int) else 255) →
    J4G (Jj p.LSN 8 ++ Jj p.ID 4 ++ J4z (p.Cells.toList.take j)) (j : Int) n p = some (.inl (Jj p.LSN 8 ++ Jj p.ID 4 ++ J4z (p.Cells.toList.take (j + 1)), ((j + 1 : Nat) : Int))) := by
   intro n hn
   rw [e3, Jhc, ← List.append_assoc]
   generalize Jj p.LSN 8 ++ Jj p.ID 4 ++ J4z (p.Cells.toList.take j) = x at h0
   have a0 : IntKind.wrap .i64 (12 - (((p.Cells[j]).Data.length : Nat) : Int)) = ((12 - (p.Cells[j]).Data.length : Nat) : Int) := by rw [wrap64 (by omega) (by omega)]; omega
   have a1 : J2e ((12 - (p.Cells[j]).Data.length : Nat) : Int) = some (List.replicate (12 - (p.Cells[j]).Data.length) 0) := by
    rw [Jft (by omega) (by omega), Int.toNat_natCast]
   have a2 : J1m x n 1 = some (x ++ Jj n 1) := J9P _ _ (k := 1) (by omega) (by omega) (by omega)
   have a3 : J3z (p.Cells[j]).Data (List.replicate (12 - (p.Cells[j]).Data.length) 0) = some ((p.Cells[j]).Data ++ List.replicate (12 - (p.Cells[j]).Data.length) 0) := J9N (by simp; omega)
   have a4 : J3z (x ++ Jj n 1) ((p.Cells[j]).Data ++ List.replicate (12 - (p.Cells[j]).Data.length) 0) = some (x ++ Jbr p.Cells[j]) := by
    rw [J9N (by simp only [List.length_append, Jp, List.length_replicate]; omega)]
    simp only [Jbr, hn, List.append_assoc]
   simp only [J4G, a2, J8J hlt, J4F _ j hlt, a0, a1, a3, a4, Option.bind_some, J7u, J2x (show j < 1000000 by omega)]
  refine (J2v (s' := (Jj p.LSN 8 ++ Jj p.ID 4 ++ J4z (p.Cells.toList.take (j + 1)), ((j + 1 : Nat) : Int))) ?_).trans (ih (j + 1) (by omega))
  simp only [J3w, e1, decide_true, if_true, J8J hlt, J4F _ j hlt, Option.bind_some]
  cases hs : (p.Cells[j]).Set with
  | true => simp only [if_true]; exact go _ (by rw [hs]; rfl)
  | false => simp only [Bool.false_eq_true, if_false]; exact go _ (by rw [hs]; rfl)
theorem Jqg (p : T_api_Page) : ∃ e, J5l p = some e ∧ (e = 0 ↔ J5Q p) ∧ (e ≠ 0 → J0V p = some ([], e)) := by
 obtain ⟨a, h1, h2⟩ := Jpr p
 obtain ⟨b, h3, h4⟩ := Jkr p
 unfold J5l
 simp only [JnJ, JqI, h1, h3, Option.bind_some]
 cases a with
 | false =>
  refine ⟨1, rfl, ⟨fun h => (by cases h), fun h => ?_⟩, fun _ => ?_⟩
  ·have := h2.2 ⟨h.id0, h.id1, h.lsn0, h.lsn1⟩
   cases this
  ·unfold J0V
   simp only [h1, Option.bind_some, Bool.false_eq_true, if_false]
 | true =>
  obtain ⟨i0, i1, l0, l1⟩ := h2.1 rfl
  cases b with
  | false =>
   refine ⟨22, rfl, ⟨fun h => (by cases h), fun h => ?_⟩, fun _ => ?_⟩
   ·have := h4.2 h.cells
    cases this
   ·unfold J0V
    simp only [h1, h3, Option.bind_some, if_true, Bool.false_eq_true, if_false]
  | true => exact ⟨0, rfl, ⟨fun _ => ⟨i0, i1, l0, l1, h4.1 rfl⟩, fun _ => rfl⟩, fun h => (h rfl).elim⟩
theorem JdM (p : T_api_Page) : J2O p = J0V p := by
 obtain ⟨e, h1, h2, h3⟩ := Jqg p
 unfold J2O
 simp only [h1, Option.bind_some]
 by_cases he : e = 0
 ·have hp := h2.1 he
  have e0 : (e != 0) = false := by simp [he]
  have a1 : J1m [] p.LSN 8 = some (Jj p.LSN 8) := J9P [] _ (k := 8) (by omega) (by omega) (by simp)
  have a2 : J1m (Jj p.LSN 8) p.ID 4 = some (Jj p.LSN 8 ++ Jj p.ID 4) := J9P _ _ (k := 4) (by omega) (by omega) (by rw [Jp]; omega)
  simp only [e0, Bool.false_eq_true, if_false, a1, a2, Option.bind_some]
  rw [JkT hp]
  have h := Jit hp 16 0 (by omega)
  simp only [List.take_zero, J4z, List.map_nil, List.flatten_nil, List.append_nil] at h
  exact h
 ·have e0 : (e != 0) = true := by simpa using he
  simp only [e0, if_true]
  rw [h3 he]
end Go.Am
end
section
namespace Go.Am
set_option maxRecDepth 16000
theorem JiD (p : T_api_Page) : ∃ r, J0V p = some r := by
 obtain ⟨r, h, _⟩ := Jjw p
 exact ⟨r, h⟩
theorem JiR {s : List UInt8} {at_ k n : Int} (h : JO s at_ k = some n) : ∃ e, JM s at_ k = some (n, e) := by
 unfold JO at h
 obtain ⟨r, h1, h2⟩ := Option.bind_eq_some_iff.1 h
 injection h2 with h2
 exact ⟨r.2, by rw [h1, ← h2]⟩
theorem Jti (s : List UInt8) (hs : s.length ≤ 1000) {at_ k : Nat} (h1 : 1 ≤ k) (h8 : k ≤ 4) (ha : at_ ≤ 1000) : ∃ (n : Nat) (e : Int), JM s at_ k = some ((n : Int), e) ∧ n < 2 ^ 32 := by
 have a1 : ¬ (k : Int) < 1 := by omega
 have a2 : ¬ (k : Int) > 8 := by omega
 have a3 : ¬ (at_ : Int) < 0 := by omega
 unfold JM
 simp only [a1, a2, a3, decide_false, Bool.false_eq_true, if_false]
 by_cases c1 : (at_ : Int) > (s.length : Int)
 ·exact ⟨0, 5, by simp only [c1, decide_true, if_true]; rfl, by decide⟩
 ·have e0 : IntKind.wrap .i64 ((s.length : Int) - at_) = (s.length : Int) - at_ := wrap64 (by omega) (by omega)
  by_cases c2 : (s.length : Int) - at_ < k
  ·exact ⟨0, 5, by simp only [c1, e0, c2, decide_false, decide_true, Bool.false_eq_true, if_false, if_true]; rfl, by decide⟩
  ·simp only [c1, e0, c2, decide_false, Bool.false_eq_true, if_false]
   obtain ⟨r, hr, n, e, rfl, hn⟩ := J0R (f := fun q : Int × Int => J05 s at_ k q.1 q.2) (fun q => ∃ j x : Nat, q.2 = j ∧ q.1 = x ∧ j ≤ k ∧ x < 2 ^ (8 * j)) (fun q => (k - q.2).toNat)
    (fun r => ∃ (n : Nat) (e : Int), r = ((n : Int), e) ∧ n < 2 ^ 32) (fun q ⟨j, x, hj, hx, hjk, hxl⟩ => by
    obtain ⟨x', j'⟩ := q
    simp only at hj hx
    subst hj hx
    by_cases hlt : j < k
    ·left
     have e1 : ((j : Nat) : Int) < (k : Int) := by omega
     have e2 : IntKind.wrap .i64 ((at_ : Int) + (j : Int)) = ((at_ + j : Nat) : Int) := by rw [wrap64 (by omega) (by omega)]; omega
     have e3 : IntKind.wrap .i64 (8 * (j : Int)) = ((8 * j : Nat) : Int) := by rw [wrap64 (by omega) (by omega)]; omega
     have hlt2 : at_ + j < s.length := by omega
     have hu : (s[at_ + j]).toNat < 256 := UInt8.toNat_lt _
     have e4 : Jd3 .u64 (IntKind.wrap .u64 (((s[at_ + j]).toNat : Nat) : Int)) ((8 * j : Nat) : Int) = some (IntKind.wrap .u64 ((((s[at_ + j]).toNat : Nat) : Int) * 2 ^ (8 * j))) := by
      rw [J8A (by omega) (by omega)]
      simp only [Jd3]
      rw [if_neg (by omega)]
      have : min (((8 * j : Nat) : Int)).toNat IntKind.u64.bits = 8 * j := by
       simp only [Int.toNat_natCast]
       exact Nat.min_eq_left (by show 8 * j ≤ 64; omega)
      rw [this]
     have e5 := Jrj (x := x) (b := (s[at_ + j]).toNat) (j := j) (by omega) hxl hu
     refine ⟨(((x + (s[at_ + j]).toNat * 2 ^ (8 * j) : Nat) : Int), ((j + 1 : Nat) : Int)), ?_, ⟨j + 1, x + (s[at_ + j]).toNat * 2 ^ (8 * j), rfl, rfl, by omega, ?_⟩, by show ((k : Int) - ((j + 1 : Nat) : Int)).toNat < ((k : Int) - (j : Int)).toNat; omega⟩
     ·simp only [J05, e1, decide_true, if_true, e2, J81 hlt2, Option.bind_some, e3, e4, e5, J2x (show j < 1000000 by omega)]
     ·have : (s[at_ + j]).toNat * 2 ^ (8 * j) + 2 ^ (8 * j) ≤ 256 * 2 ^ (8 * j) := by
       rw [← Nat.succ_mul]; exact Nat.mul_le_mul_right _ hu
      have e6 : 2 ^ (8 * (j + 1)) = 256 * 2 ^ (8 * j) := by rw [Nat.mul_add, Nat.pow_add, Nat.mul_comm]
      omega
    ·right
     obtain rfl : j = k := by omega
     have e1 : ¬ ((j : Nat) : Int) < (j : Int) := by omega
     have h32 : (2 : Nat) ^ (8 * j) ≤ 2 ^ 32 := Nat.pow_le_pow_right (by omega) (by omega)
     refine ⟨((x : Int), 0), ?_, x, 0, rfl, by omega⟩
     simp only [J05, e1, decide_false, Bool.false_eq_true, if_false, J5d, Option.map_some]
     rw [wrap64 (by omega) (by omega)]) (0, 0) ⟨0, 0, rfl, rfl, by omega, by decide⟩
   exact ⟨n, e, hr, hn⟩
theorem bind_none {α β : Type} {o : Option α} {f : α → Option β} (h : Option.bind o f = none) (h2 : ∀ x, o = some x → f x ≠ none) : o = none := by
 cases o with
 | none => rfl
 | some x => exact (h2 x rfl h).elim
theorem JrO {s : List UInt8} (hs : s.length = 256) (p0 : T_api_Page) (q : Int × T_api_Page) (hq : ∃ j : Nat, q.1 = j ∧ j ≤ 16) {r : T_api_Page × Bool} (h : J98 s p0 q = some r) :
  ∃ r', J9u s p0 q = some r' ∧ (if r.2 = true then J2D s p0 r.1 = some r' else r' = (⟨0, 0, Vector.replicate 16 ⟨false, []⟩⟩, 4)) := by
 refine JqN (f := fun q : Int × T_api_Page => J19 s p0 q.1 q.2) (g := fun q : Int × T_api_Page => J2C s p0 q.1 q.2) (fun a b => a = b ∧ ∃ j : Nat, a.1 = j ∧ j ≤ 16)
  (fun r r' => if r.2 = true then J2D s p0 r.1 = some r' else r' = (⟨0, 0, Vector.replicate 16 ⟨false, []⟩⟩, 4)) ?_ ?_ ⟨rfl, hq⟩ h
 all_goals
  rintro ⟨j', p⟩ _ r ⟨rfl, j, hj, h16⟩ e
  simp only at hj
  subst hj
 ·by_cases hlt : j < 16
  ·have e1 : ((j : Nat) : Int) < 16 := by omega
   have e2 : IntKind.wrap .i64 (12 + IntKind.wrap .i64 ((j : Int) * 13)) = ((12 + 13 * j : Nat) : Int) := by
    rw [wrap64 (n := (j : Int) * 13) (by omega) (by omega), wrap64 (by omega) (by omega)]; omega
   have hu : (s[12 + 13 * j]'(by omega)).toNat < 256 := UInt8.toNat_lt _
   have e3 : JO s ((12 + 13 * j : Nat) : Int) 1 = some (((s[12 + 13 * j]'(by omega)).toNat : Nat) : Int) := by
    simp only [JO, Ji5 s (by omega) (show 12 + 13 * j < s.length by omega), Option.bind_some]
   have e4 := J81 (l := s) (k := 12 + 13 * j) (by omega)
   generalize hv : (s[12 + 13 * j]'(by omega)).toNat = v at e3 e4 hu
   have e5 : IntKind.wrap .i64 ((v : Nat) : Int) = ((v : Nat) : Int) := wrap64 (by omega) (by omega)
   have e6 := J2x (show j < 1000000 by omega)
   simp only [J19, e1, decide_true, if_true, e2, e3, Option.bind_some, e6] at e
   simp only [J2C, e1, decide_true, if_true, e2, e4, Option.bind_some, e5, J4J, e6]
   split at e
   ·rename_i h255
    injection e with e; injection e with e; subst e
    exact ⟨_, by rw [if_pos h255], rfl, j + 1, rfl, by omega⟩
   ·rename_i h255
    rw [if_neg h255]
    split at e
    ·cases e
    ·rename_i h12
     rw [if_neg h12]
     simp only [Option.bind_eq_some_iff, Option.some.injEq, Sum.inl.injEq] at e
     obtain ⟨m, hm, u, hu1, y, hy, rfl⟩ := e
     exact ⟨_, by simp only [hm, hu1, hy, Option.bind_some], rfl, j + 1, rfl, by omega⟩
  ·have e1 : ¬ ((j : Nat) : Int) < 16 := by omega
   simp only [J19, e1, decide_false, Bool.false_eq_true, if_false, J6k, Option.map_some] at e
   cases e
 ·by_cases hlt : j < 16
  ·have e1 : ((j : Nat) : Int) < 16 := by omega
   have e2 : IntKind.wrap .i64 (12 + IntKind.wrap .i64 ((j : Int) * 13)) = ((12 + 13 * j : Nat) : Int) := by
    rw [wrap64 (n := (j : Int) * 13) (by omega) (by omega), wrap64 (by omega) (by omega)]; omega
   have hu : (s[12 + 13 * j]'(by omega)).toNat < 256 := UInt8.toNat_lt _
   have e3 : JO s ((12 + 13 * j : Nat) : Int) 1 = some (((s[12 + 13 * j]'(by omega)).toNat : Nat) : Int) := by
    simp only [JO, Ji5 s (by omega) (show 12 + 13 * j < s.length by omega), Option.bind_some]
   have e4 := J81 (l := s) (k := 12 + 13 * j) (by omega)
   generalize hv : (s[12 + 13 * j]'(by omega)).toNat = v at e3 e4 hu
   have e5 : IntKind.wrap .i64 ((v : Nat) : Int) = ((v : Nat) : Int) := wrap64 (by omega) (by omega)
   simp only [J19, e1, decide_true, if_true, e2, e3, Option.bind_some] at e
   simp only [J2C, e1, decide_true, if_true, e2, e4, Option.bind_some, e5, J4J]
   split at e
   ·cases e
   ·rename_i h255
    rw [if_neg h255]
    split at e
    ·rename_i h12
     injection e with e; injection e with e; subst e
     exact ⟨_, by rw [if_pos h12], by simp⟩
    ·simp only [Option.bind_eq_some_iff, Option.some.injEq] at e
     obtain ⟨_, _, _, _, _, _, e⟩ := e
     cases e
  ·have e1 : ¬ ((j : Nat) : Int) < 16 := by omega
   simp only [J19, e1, decide_false, Bool.false_eq_true, if_false, J6k, Option.map_some, Option.some.injEq, Sum.inr.injEq] at e
   subst e
   have ht : ∃ r', J2D s p0 p = some r' := by
    unfold J2D
    rw [JdM]
    obtain ⟨x, hx⟩ := JiD p
    rw [hx, Option.bind_some]
    split
    ·exact ⟨_, rfl⟩
    ·split <;> exact ⟨_, rfl⟩
   obtain ⟨r', hr'⟩ := ht
   exact ⟨r', by simp only [J2C, e1, decide_false, Bool.false_eq_true, if_false, hr', Option.map_some], by simpa using hr'⟩
theorem JpH (s : List UInt8) : J4T s = J14 s := by
 unfold J4T J14
 by_cases hs : s.length = 256
 ·have e0 : (((s.length : Nat) : Int) != 256) = false := by rw [hs]; rfl
  have e3 : J1i s none (some 244) = some (s.take 244) := Jdx s (b := 244) (by omega)
  have e1 : J1i s none (some 8) = some (s.take 8) := Jdx s (b := 8) (by omega)
  have e2 : J1i s (some 248) none = some (s.drop 248) := Jc0 s (a := 248) (by omega)
  have g1 : J1n s 244 4 = JM s 244 4 := Jgf s 244 (k := 4) (by omega) (by omega)
  have g2 : J1n s 0 8 = JM s 0 8 := Jgf s 0 (k := 8) (by omega) (by omega)
  have g3 : J1n s 8 4 = JM s 8 4 := Jgf s 8 (k := 4) (by omega) (by omega)
  have c1 := Jk1 (s.take 244) (by simp; omega)
  have c2 := JdZ (s.take 244) (by simp; omega)
  have hc := JaU (s.take 244)
  obtain ⟨n1, x1, k1, l1⟩ := Jti s (by omega) (at_ := 244) (k := 4) (by omega) (by omega) (by omega)
  have k1' : JM s 244 4 = some ((n1 : Int), x1) := k1
  obtain ⟨n2, k2⟩ := Ja0 s (by omega) (at_ := 0) (k := 8) (by omega) (by omega) (by omega)
  have k2' : JO s 0 8 = some n2 := k2
  obtain ⟨x2, k2''⟩ := JiR k2'
  obtain ⟨n3, k3⟩ := Ja0 s (by omega) (at_ := 8) (k := 4) (by omega) (by omega) (by omega)
  have k3' : JO s 8 4 = some n3 := k3
  obtain ⟨x3, k3''⟩ := JiR k3'
  have m1 : JO s 244 4 = some (n1 : Int) := by simp only [JO, k1', Option.bind_some]
  have w1 : IntKind.wrap .u32 (n1 : Int) = (n1 : Int) := J9I n1 l1
  have w2 : IntKind.wrap .i64 ((crc (s.take 244) : Nat) : Int) = ((crc (s.take 244) : Nat) : Int) := wrap64 (by omega) (by omega)
  obtain ⟨p, hp⟩ := Jmi s hs
  simp only [e0, Bool.false_eq_true, if_false, Jks, Jh5, Option.bind_some, e1, e2, e3, g1, g2, g3, c1, c2, k1', k2'', k3'', m1, w1, w2, hp]
  split
  ·rfl
  ·split
   ·split
    ·rfl
    ·have hp' : J98 s ⟨0, 0, Vector.replicate 16 ⟨false, []⟩⟩ (0, ⟨n3, n2, Vector.replicate 16 ⟨false, []⟩⟩) = some p := by
      have := hp
      unfold J5y at this
      simpa only [k3', k2', Option.bind_some] using this
     obtain ⟨r', hr1, hr2⟩ := JrO hs _ _ ⟨0, rfl, by omega⟩ hp'
     rw [hr1]
     obtain ⟨x, hx⟩ := JiD p.1
     rw [hx, Option.bind_some]
     by_cases hb : p.2 = true
     ·rw [if_pos hb] at hr2 ⊢
      rw [← hr2]
      unfold J2D
      rw [JdM, hx, Option.bind_some]
     ·rw [if_neg hb] at hr2 ⊢
      rw [hr2]
   ·rfl
 ·have e0 : (((s.length : Nat) : Int) != 256) = true := by simp; omega
  simp only [e0, if_true]
theorem Jec (s : List UInt8) : ∃ r, J14 s = some r := by
 by_cases hs : s.length = 256
 ·obtain ⟨r, h, _⟩ := Jpl s hs
  exact ⟨r, h⟩
 ·have e0 : (((s.length : Nat) : Int) != 256) = true := by simp; omega
  unfold J14
  simp only [e0, if_true]
  exact ⟨_, rfl⟩
theorem JnZ {s : List UInt8} {r : T_api_Page × Int} (h : J14 s = some r) (h0 : r.2 ≠ 0) : r.1 = ⟨0, 0, Vector.replicate 16 ⟨false, []⟩⟩ := by
 unfold J14 at h
 split at h
 ·injection h with h; subst h; rfl
 ·obtain ⟨_, _, h⟩ := Option.bind_eq_some_iff.1 h
  split at h
  ·injection h with h; subst h; rfl
  ·simp only [Option.bind_eq_some_iff] at h
   obtain ⟨_, _, _, _, h⟩ := h
   split at h
   ·simp only [Option.bind_eq_some_iff] at h
    obtain ⟨_, _, _, _, _, _, h⟩ := h
    split at h
    ·injection h with h; subst h; rfl
    ·simp only [Option.bind_eq_some_iff] at h
     obtain ⟨_, _, _, _, h⟩ := h
     split at h
     ·split at h
      ·injection h with h; subst h; rfl
      ·split at h
       ·injection h with h; subst h; exact (h0 rfl).elim
       ·injection h with h; subst h; rfl
     ·injection h with h; subst h; rfl
   ·injection h with h; subst h; rfl
theorem Jny (s : List UInt8) (k : Int) : J1c s k = J0s s k := by
 unfold J1c J0s J1y
 obtain ⟨r, hr⟩ := Jec s
 simp only [JpH, hr, Option.bind_some]
 by_cases h1 : k < 0
 ·have h2 : ¬ k ≥ 0 := by omega
  simp only [h1, h2, decide_true, decide_false, if_true, Bool.false_eq_true, if_false, Option.bind_some]
 ·have h2 : k ≥ 0 := by omega
  by_cases h3 : k ≥ 64
  ·have h4 : ¬ k < 64 := by omega
   simp only [h1, h2, h3, h4, decide_true, decide_false, if_true, Bool.false_eq_true, if_false, Option.bind_some]
  ·have h4 : k < 64 := by omega
   simp only [h1, h2, h3, h4, decide_true, decide_false, if_true, Bool.false_eq_true, if_false, Option.bind_some, Jtr]
   split
   ·rfl
   ·by_cases h0 : r.2 = 0
    ·have d1 : (r.2 == 0) = true := by simpa using h0
     have d2 : (r.2 != 0) = false := by simp [h0]
     simp only [d1, d2, if_true, Bool.false_eq_true, if_false]
     rw [h0]
    ·have d1 : (r.2 == 0) = false := by simpa using h0
     have d2 : (r.2 != 0) = true := by simpa using h0
     simp only [d1, d2, if_true, Bool.false_eq_true, if_false]
     rw [← JnZ hr h0]
theorem Jfu (s : List UInt8) (k : Int) : ∃ r, J0s s k = some r := by
 unfold J0s J1y
 obtain ⟨r, hr⟩ := Jec s
 simp only [hr, Option.bind_some]
 by_cases h1 : k ≥ 0
 ·simp only [h1, decide_true, if_true, Option.bind_some]
  split
  ·split
   ·exact ⟨_, rfl⟩
   ·split
    ·exact ⟨_, rfl⟩
    ·split <;> exact ⟨_, rfl⟩
  ·exact ⟨_, rfl⟩
 ·simp only [h1, decide_false, Bool.false_eq_true, if_false, Option.bind_some]
  exact ⟨_, rfl⟩
end Go.Am
end
section
namespace Go.Am
set_option maxRecDepth 16000
theorem Jua {l : List Int} (h : List.length l ≤ maxLen ∧ ∀ x ∈ l, 0 ≤ x ∧ x ≤ 255) {n : Nat} (hn : n ≤ 1000) : ∃ b, J7t l (n : Int) = some b ∧ J1g b := JvT h.2 hn
theorem JqB {p : T_api_Page} (hp : J5Q p) : (Jg5 p).length = 256 := by
 simp [Jg5, JbU hp, Jp]
theorem Jsz {b : T_pagemenddraw_Codes} (hb : J1g b) : ∃ t b', J2E b = some (t, b') ∧ J1g b' ∧ t.length = 256 := by
 obtain ⟨r, b1, e1, hb1, _, _⟩ := J54 hb (n := 256) (by omega) (by omega)
 obtain ⟨z, b2, e2, hb2, z0, z1⟩ := J54 hb1 (n := 256) (by omega) (by omega)
 obtain ⟨y, b3, e3, hb3, _, _⟩ := J54 hb2 (n := 256) (by omega) (by omega)
 obtain ⟨k, rfl⟩ : ∃ k : Nat, z = (k : Int) := ⟨z.toNat, by omega⟩
 have e0 : mkS 1 256 256 (0 : Int) = some (List.replicate 256 0) := by
  unfold mkS
  rw [if_pos (by omega)]
  rfl
 unfold J2E
 simp only [e0, e1, Option.bind_some]
 have hL : (List.replicate 256 (0 : Int)).length = 256 := List.length_replicate
 generalize List.replicate 256 (0 : Int) = L at hL
 obtain ⟨o, ho, hq⟩ := J0R (f := fun s : Int × List Int => J22 (IntKind.wrap .u8 r) b1 s.1 s.2) (fun s => (∃ j : Nat, s.1 = j ∧ j ≤ 256) ∧ s.2.length = 256) (fun s => (256 - s.1).toNat) (fun r => J1g r.2 ∧ r.1.length = 256) (fun s ⟨⟨j, hj, h4⟩, hl⟩ => by
  obtain ⟨j', l⟩ := s
  simp only at hj hl
  subst hj
  by_cases hlt : j < 256
  ·left
   have c1 : ((j : Nat) : Int) < (l.length : Int) := by omega
   have c2 : idx l (j : Int) = some (l[j]'(by omega)) := by rw [J5J, List.getElem?_eq_getElem]
   exact ⟨⟨((j + 1 : Nat) : Int), l.set j (IntKind.wrap .u8 r)⟩, by simp only [J22, c1, decide_true, if_true, c2, Option.bind_some, Int.toNat_natCast, J2x (show j < 1000000 by omega)], ⟨⟨j + 1, rfl, by omega⟩, by show (l.set j _).length = 256; simp [hl]⟩, by show ((256 : Int) - ((j + 1 : Nat) : Int)).toNat < ((256 : Int) - (j : Int)).toNat; omega⟩
  ·right
   have c1 : ¬ ((j : Nat) : Int) < (l.length : Int) := by omega
   have c2 : idx l (k : Int) = some (l[k]'(by omega)) := by rw [J5J, List.getElem?_eq_getElem]
   exact ⟨(toStr (l.set k (IntKind.wrap .u8 y)), b3), by simp only [J22, c1, decide_false, Bool.false_eq_true, if_false, J5u, e2, e3, c2, Option.bind_some, Option.map_some, Int.toNat_natCast], hb3, by simp [toStr, hl]⟩) (0, L) ⟨⟨0, rfl, by omega⟩, hL⟩
 exact ⟨o.1, o.2, ho, hq.1, hq.2⟩
end Go.Am
end
section
namespace Go.Am
set_option maxRecDepth 16000
theorem Jta {x y : Nat} (h : x ^^^ y = 0) : x = y := by
 have e : x = (x ^^^ y) ^^^ y := by rw [Nat.xor_assoc, Nat.xor_self, Nat.xor_zero]
 rw [e, h, Nat.zero_xor]
theorem Jpf {a b c : Nat} (h : a ^^^ b = a ^^^ c) : b = c := by
 have e : ∀ z, z = a ^^^ (a ^^^ z) := fun z => by rw [← Nat.xor_assoc, Nat.xor_self, Nat.zero_xor]
 rw [e b, h, ← e c]
theorem Jqs {a b c : Nat} (h : b ^^^ a = c ^^^ a) : b = c := Jpf (a := a) (by rw [Nat.xor_comm a b, h, Nat.xor_comm])
theorem Ju0 {z : Nat} (h : z < 2 ^ 32) (h0 : gb z = 0) : z = 0 := by
 unfold gb at h0
 split at h0
 ·have h1 : z / 2 = P32 := Jta h0
  have h2 : P32 = 2197175160 := rfl
  omega
 ·omega
theorem JvE {x y : Nat} (hx : x < 2 ^ 32) (hy : y < 2 ^ 32) (h : gb x = gb y) : x = y := by
 have h1 : gb (x ^^^ y) = 0 := by rw [JqA, h, Nat.xor_self]
 exact Jta (Ju0 (Nat.xor_lt_two_pow hx hy) h1)
theorem JmU : ∀ {j x y : Nat}, x < 2 ^ 32 → y < 2 ^ 32 → gN j x = gN j y → x = y
 | 0, _, _, _, _, h => h
 | j + 1, _, _, hx, hy, h => JvE hx hy (JmU (j := j) (Jja hx) (Jja hy) h)
theorem Jnn : ∀ {l : List UInt8} {x y : Nat}, x < 2 ^ 32 → y < 2 ^ 32 → JbR l x = JbR l y → x = y
 | [], _, _, _, _, h => h
 | b :: r, x, y, hx, hy, h => by
  have h1 := Jnn (l := r) (J9Y (Nat.xor_lt_two_pow hx (J4a b))) (J9Y (Nat.xor_lt_two_pow hy (J4a b))) h
  have h2 := JmU (Nat.xor_lt_two_pow hx (J4a b)) (Nat.xor_lt_two_pow hy (J4a b)) h1
  exact Jqs h2
theorem JmM : ∀ {l : List UInt8} {k : Nat} {c : UInt8} {x : Nat} (h : k < l.length), x < 2 ^ 32 → l[k] ≠ c → JbR (l.set k c) x ≠ JbR l x
 | [], _, _, _, h, _, _ => by simp at h
 | b :: r, 0, c, x, _, hx, hc => by
  intro h
  have h1 := Jnn (l := r) (J9Y (Nat.xor_lt_two_pow hx (J4a c))) (J9Y (Nat.xor_lt_two_pow hx (J4a b))) h
  have h2 := JmU (Nat.xor_lt_two_pow hx (J4a c)) (Nat.xor_lt_two_pow hx (J4a b)) h1
  have h3 := Jpf h2
  exact hc (UInt8.toNat_inj.1 h3).symm
 | b :: r, k + 1, c, x, h, hx, hc => by
  intro h1
  exact JmM (l := r) (k := k) (by simpa using h) (J9Y (Nat.xor_lt_two_pow hx (J4a b))) (by simpa using hc) h1
theorem Ju2 {l : List UInt8} {k : Nat} {c : UInt8} (h : k < l.length) (hc : l[k] ≠ c) : crc (l.set k c) ≠ crc l := by
 intro h1
 exact JmM h (by decide) hc (Jqs h1)
def hb (c : Nat) : Nat := if c < 2147483648 then 2 * c else 2 * (c ^^^ P32) + 1
def hN : Nat → Nat → Nat
 | 0, c => c
 | j + 1, c => hN j (hb c)
theorem JvQ {α : Type} {l : List α} {k : Nat} {c : α} (h : k < l.length) (hc : l[k] ≠ c) : l.set k c ≠ l := by
 intro e
 have : (l.set k c)[k]'(by simpa using h) = l[k] := by simp only [e]
 rw [List.getElem_set_self] at this
 exact hc this.symm
theorem JwH {a b : Nat} (ha : a < 256) (hb : b < 256) : J4E .u8 (a : Int) (b : Int) = ((a ^^^ b : Nat) : Int) := by
 show IntKind.wrap .u8 (((BitVec.ofInt 8 (a : Int) ^^^ BitVec.ofInt 8 (b : Int)).toNat : Nat) : Int) = _
 have h1 : (BitVec.ofInt 8 (a : Int)).toNat = a := by rw [BitVec.toNat_ofInt]; omega
 have h2 : (BitVec.ofInt 8 (b : Int)).toNat = b := by rw [BitVec.toNat_ofInt]; omega
 have h3 : a ^^^ b < 2 ^ 8 := Nat.xor_lt_two_pow ha hb
 rw [BitVec.toNat_xor, h1, h2]
 rw [show IntKind.wrap .u8 ((a ^^^ b : Nat) : Int) = ((a ^^^ b : Nat) : Int) % 256 from rfl]
 omega
end Go.Am
end
section
namespace Go.Am
set_option maxRecDepth 16000
theorem Jqt {α ρ : Type} {f : Int → Option (Int ⊕ ρ)} {l : List α} (p : α → Bool) (hit : Nat → ρ) (out : ρ) (hl : l.length < 1000000)
  (h1 : ∀ (k : Nat) (h : k < l.length), f (k : Int) = some (if p l[k] = true then .inr (hit k) else .inl ((k + 1 : Nat) : Int))) (h2 : f (l.length : Int) = some (.inr out)) :
  Jv f 0 = some (match l.findIdx? p with
   | some k => hit k
   | none => out) := by
 have key : ∀ (n k : Nat), k + n = l.length → Jv f (k : Int) = some (match (l.drop k).findIdx? p with
   | some j => hit (k + j)
   | none => out) := by
  intro n
  induction n with
  | zero =>
   intro k hk
   obtain rfl : k = l.length := by omega
   rw [J0N h2]
   simp
  | succ n ih =>
   intro k hk
   have hlt : k < l.length := by omega
   have e := h1 k hlt
   rw [List.drop_eq_getElem_cons hlt, List.findIdx?_cons]
   by_cases hp : p l[k] = true
   ·rw [if_pos hp] at e
    rw [J0N e, if_pos hp]
    rfl
   ·rw [if_neg hp] at e
    rw [J2v e, ih (k + 1) (by omega), if_neg hp]
    cases (l.drop (k + 1)).findIdx? p with
    | none => rfl
    | some j => simp only [Option.map_some]; congr 2; omega
 have := key l.length 0 (by omega)
 simpa using this
theorem Jsl {α ρ : Type} {f : Int → Option (Int ⊕ ρ)} {l : List α} (q : α → Bool) (bad out : ρ) (hl : l.length < 1000000)
  (h1 : ∀ (k : Nat) (h : k < l.length), f (k : Int) = some (if q l[k] = true then .inl ((k + 1 : Nat) : Int) else .inr bad)) (h2 : f (l.length : Int) = some (.inr out)) :
  Jv f 0 = some (if l.all q = true then out else bad) := by
 have := Jqt (f := f) (l := l) (fun x => !q x) (fun _ => bad) out hl (fun k h => by
  rw [h1 k h]
  cases q l[k] <;> rfl) h2
 rw [this]
 cases h : l.findIdx? (fun x => !q x) with
 | none =>
  rw [List.findIdx?_eq_none_iff] at h
  have : l.all q = true := List.all_eq_true.2 fun x hx => by simpa using h x hx
  rw [this]; rfl
 | some k =>
  obtain ⟨hk, h3, _⟩ := List.findIdx?_eq_some_iff_getElem.1 h
  have : l.all q ≠ true := fun h4 => by
   have := List.all_eq_true.1 h4 _ (List.getElem_mem hk)
   rw [this] at h3; cases h3
  rw [if_neg this]
end Go.Am
end
section
namespace Go.Am
set_option maxRecDepth 16000
def Tot {ρ : Type} (o : Option ρ) (Q : ρ → Prop) : Prop := ∃ r, o = some r ∧ Q r
theorem Tot.bind {α ρ : Type} {o : Option α} {f : α → Option ρ} {Q : α → Prop} {R : ρ → Prop} (h : Tot o Q) (h2 : ∀ r, Q r → Tot (f r) R) : Tot (o.bind f) R := by
 obtain ⟨r, rfl, hq⟩ := h
 exact h2 r hq
theorem Tot.some {ρ : Type} {r : ρ} {Q : ρ → Prop} (h : Q r) : Tot (some r) Q := ⟨r, rfl, h⟩
theorem Tot.eq {α ρ : Type} {o : Option α} {f : α → Option ρ} {v : α} {R : ρ → Prop} (h : o = Option.some v) (h2 : Tot (f v) R) : Tot (o.bind f) R := by
 subst h; exact h2
theorem Tot.ite {ρ : Type} {c : Bool} {a b : Option ρ} {Q : ρ → Prop} (h1 : c = true → Tot a Q) (h2 : c = false → Tot b Q) : Tot (if c = true then a else b) Q := by
 cases c with
 | true => exact h1 rfl
 | false => exact h2 rfl
theorem Tot.both {ρ : Type} {c : Bool} {a b : Option ρ} {Q : ρ → Prop} (h1 : Tot a Q) (h2 : Tot b Q) : Tot (if c = true then a else b) Q := .ite (fun _ => h1) fun _ => h2
theorem Tot.mono {ρ : Type} {o : Option ρ} {Q R : ρ → Prop} (h : Tot o Q) (h2 : ∀ r, Q r → R r) : Tot o R := by
 obtain ⟨r, e, hq⟩ := h
 exact ⟨r, e, h2 r hq⟩
theorem Tot.map {α ρ : Type} {o : Option α} {f : α → ρ} {Q : α → Prop} {R : ρ → Prop} (h : Tot o Q) (h2 : ∀ r, Q r → R (f r)) : Tot (Option.map f o) R := by
 obtain ⟨r, rfl, hq⟩ := h
 exact ⟨f r, rfl, h2 r hq⟩
abbrev Drw {α : Type} (o : Option (α × T_pagemenddraw_Codes)) (Q : α → Prop) : Prop := Tot o fun r => J1g r.2 ∧ Q r.1
section
variable {b : T_pagemenddraw_Codes} (hb : J1g b)
include hb
theorem Jiv {n : Int} (h1 : 1 ≤ n) (h2 : n ≤ 256) : Drw (JH b n) fun r => 0 ≤ r ∧ r < n := by
 obtain ⟨r, b', e, h3, h4, h5⟩ := J54 hb h1 h2
 exact ⟨_, e, h3, h4, h5⟩
end
end Go.Am
end
section
namespace Go.Am
set_option maxRecDepth 16000
set_option linter.unusedSimpArgs false
set_option linter.unusedVariables false
noncomputable def idn (s : List UInt8) (k : Int) : T_api_Page × Int := Classical.choose (Jfu s k)
theorem Ja2 (s : List UInt8) (k : Int) : J0s s k = some (idn s k) := Classical.choose_spec (Jfu s k)
theorem JdH (s : List UInt8) (k : Int) : J1c s k = some (idn s k) := by rw [Jny, Ja2]
theorem JsU (k : Int) : J1y k = some (decide (0 ≤ k) && decide (k < 64)) := by
 unfold J1y
 by_cases h : k ≥ 0 <;> by_cases h2 : k < 64 <;> simp [h, h2]
 all_goals omega
theorem JcO {s : List UInt8} {k : Int} (h : (idn s k).2 = 0) : 0 ≤ k ∧ k < 64 ∧ s.length = 256 := by
 have e := Ja2 s k
 unfold J0s at e
 rw [JsU, Option.bind_some] at e
 by_cases hk : 0 ≤ k ∧ k < 64
 ·refine ⟨hk.1, hk.2, ?_⟩
  obtain ⟨r, hr⟩ := Jec s
  rw [if_pos (by simp [hk]), hr, Option.bind_some] at e
  by_cases hl : s.length = 256
  ·exact hl
  ·unfold J14 at hr
   rw [if_pos (by simp; omega)] at hr
   injection hr with hr
   subst hr
   simp at e
   rw [← e] at h
   cases h
 ·rw [if_neg (by simp; omega)] at e
  injection e with e
  rw [← e] at h
  cases h
noncomputable def J6X (n : Int) (c : T_api_Copy) : Bool := decide (c.Page < n) && ((idn c.Data c.Page).2 == 0 && (idn c.Data c.Page).1.LSN == c.LSN)
def Jfp (l : List T_api_Copy) (k : Nat) : Bool := k == 0 || match l[k - 1]?, l[k]? with
 | some a, some b => decide (a.Page < b.Page)
 | _, _ => true
noncomputable def J8I (n : Int) (l : List T_api_Copy) : Bool := (List.range l.length).all fun k => Jfp l k && match l[k]? with
 | some c => J6X n c
 | none => true
noncomputable def J8T (x : T_api_Image) : Bool := decide (1 ≤ x.ID) && (decide (x.ID ≤ 1073741824) && (decide (1 ≤ x.Pages) && (decide (x.Pages ≤ 64) && J8I x.Pages x.Copies)))
theorem Jej {ρ : Type} {f : Int → Option (Int ⊕ ρ)} {n : Nat} (q : Nat → Bool) (bad out : ρ) (hl : n < 1000000)
  (h1 : ∀ (k : Nat), k < n → f (k : Int) = some (if q k = true then .inl ((k + 1 : Nat) : Int) else .inr bad)) (h2 : f (n : Int) = some (.inr out)) :
  Jv f 0 = some (if (List.range n).all q = true then out else bad) := by
 have := Jsl (f := f) (l := List.range n) q bad out (by simpa using hl) (fun k h => by
  simp only [List.length_range] at h
  rw [h1 k h, List.getElem_range]) (by simpa using h2)
 exact this
theorem JgX (a n : Int) (l : List T_api_Copy) (k : Nat) (hk : k < l.length) (hl : l.length < 1000000) :
  J36 (l.length : Int) ⟨a, n, l⟩ (k : Int) = some (if (Jfp l k && match l[k]? with
   | some c => J6X n c
   | none => true) = true then .inl ((k + 1 : Nat) : Int) else .inr false) := by
 have e1 : idx l (k : Int) = some l[k] := by rw [J5J, List.getElem?_eq_getElem hk]
 unfold J36
 rw [if_pos (by simp; omega)]
 simp only [e1, Option.bind_some, Ja2, List.getElem?_eq_getElem hk, J6X, Jfp]
 have e3 : IntKind.wrap .i64 ((k : Int) + 1) = ((k + 1 : Nat) : Int) := by rw [wrap64 (by omega) (by omega)]; omega
 rw [e3]
 by_cases hp : l[k].Page ≥ n
 ·simp [hp, show ¬ l[k].Page < n by omega]
 ·by_cases h0 : k = 0
  ·subst h0
   simp only [hp, show l[0].Page < n by omega, decide_true, decide_false, Bool.false_eq_true, if_false, Bool.true_and]
   simp only [Int.natCast_zero, gt_iff_lt, Int.lt_irrefl, decide_false, Bool.false_eq_true, if_false, beq_self_eq_true, Bool.true_or, Bool.true_and]
   cases h5 : ((idn l[0].Data l[0].Page).2 == 0) <;> cases h6 : ((idn l[0].Data l[0].Page).1.LSN == l[0].LSN) <;> simp [bne, h5, h6]
  ·have e2 : idx l (IntKind.wrap .i64 ((k : Int) - 1)) = some l[k - 1] := by
    rw [wrap64 (by omega) (by omega), show (k : Int) - 1 = ((k - 1 : Nat) : Int) by omega, J5J, List.getElem?_eq_getElem (by omega)]
   simp only [e2, Option.bind_some, List.getElem?_eq_getElem (show k - 1 < l.length by omega)]
   simp only [hp, show l[k].Page < n by omega, decide_true, decide_false, Bool.false_eq_true, if_false, Bool.true_and, show (k : Int) > 0 by omega, if_true, show (k == 0) = false by simpa using h0, Bool.false_or]
   by_cases h7 : l[k - 1].Page ≥ l[k].Page
   ·simp [h7, show ¬ l[k - 1].Page < l[k].Page by omega]
   ·simp only [h7, show l[k - 1].Page < l[k].Page by omega, decide_true, decide_false, Bool.false_eq_true, if_false, Bool.true_and]
    cases h5 : ((idn l[k].Data l[k].Page).2 == 0) <;> cases h6 : ((idn l[k].Data l[k].Page).1.LSN == l[k].LSN) <;> simp [bne, h5, h6]
theorem J7o {n : Int} {c : T_api_Copy} (h : J6X n c = true) : 0 ≤ c.Page ∧ c.Page < 64 ∧ c.Page < n ∧ (idn c.Data c.Page).2 = 0 ∧ (idn c.Data c.Page).1.LSN = c.LSN := by
 simp only [J6X, Bool.and_eq_true, decide_eq_true_eq, beq_iff_eq] at h
 have := JcO h.2.1
 exact ⟨this.1, this.2.1, h.1, h.2.1, h.2.2⟩
theorem Jnp (a n : Int) (l : List T_api_Copy) (k : Nat) (hk : k < l.length) (hl : l.length < 1000000) :
  J35 ⟨a, n, l⟩ (k : Int) = some (if (Jfp l k && match l[k]? with
   | some c => J6X n c
   | none => true) = true then .inl ((k + 1 : Nat) : Int) else .inr false) := by
 have e1 : idx l (k : Int) = some l[k] := by rw [J5J, List.getElem?_eq_getElem hk]
 by_cases hneg : l[k].Page < 0
 ·have hf : J6X n l[k] = false := by
   cases hc : J6X n l[k] with
   | false => rfl
   | true => have := J7o hc; omega
  unfold J35
  rw [if_pos (by simp; omega)]
  simp only [e1, Option.bind_some, List.getElem?_eq_getElem hk, hf, hneg, decide_true, if_true, Bool.and_false, Bool.false_eq_true, if_false]
 ·rw [← JgX a n l k hk hl]
  unfold J35 J36
  simp only [e1, Option.bind_some, hneg, decide_false, Bool.false_eq_true, if_false, JdH, Ja2]
  rfl
theorem JfL (b : Bool) : (if b = true then true else false) = b := by cases b <;> rfl
theorem Jhs (a n : Int) (l : List T_api_Copy) (hl : l.length < 1000000) : J8f (l.length : Int) ⟨a, n, l⟩ 0 = some (J8I n l) := by
 unfold J8f
 rw [Jej (n := l.length) (fun k => Jfp l k && match l[k]? with
   | some c => J6X n c
   | none => true) false true hl (fun k h => JgX a n l k h hl) (by
  unfold J36
  rw [if_neg (by simp)]
  rfl)]
 rw [JfL]
 rfl
theorem Jkg (a n : Int) (l : List T_api_Copy) (hl : l.length < 1000000) : J8e ⟨a, n, l⟩ 0 = some (J8I n l) := by
 unfold J8e
 rw [Jej (n := l.length) (fun k => Jfp l k && match l[k]? with
   | some c => J6X n c
   | none => true) false true hl (fun k h => Jnp a n l k h hl) (by
  unfold J35
  rw [if_neg (by simp)]
  rfl)]
 rw [JfL]
 rfl
theorem JaN {n : Int} {l : List T_api_Copy} : J8I n l = true ↔ (∀ c ∈ l, J6X n c = true) ∧ ∀ (k : Nat) (h : k + 1 < l.length), l[k].Page < l[k + 1].Page := by
 unfold J8I
 simp only [List.all_eq_true, List.mem_range, Bool.and_eq_true]
 constructor
 ·intro h
  refine ⟨fun c hc => ?_, fun k hk => ?_⟩
  ·obtain ⟨k, hk⟩ := List.getElem?_of_mem hc
   have hlt : k < l.length := by
    rcases Nat.lt_or_ge k l.length with h' | h'
    ·exact h'
    ·simp [List.getElem?_eq_none h'] at hk
   have := (h k hlt).2
   rw [hk] at this
   exact this
  ·have := (h (k + 1) hk).1
   simp only [Jfp, Nat.add_sub_cancel, List.getElem?_eq_getElem hk, List.getElem?_eq_getElem (show k < l.length by omega)] at this
   simpa using this
 ·rintro ⟨h1, h2⟩ k hk
  refine ⟨?_, ?_⟩
  ·unfold Jfp
   by_cases h0 : k = 0
   ·simp [h0]
   ·obtain ⟨j, rfl⟩ : ∃ j, k = j + 1 := ⟨k - 1, by omega⟩
    simp only [Nat.add_sub_cancel, List.getElem?_eq_getElem hk, List.getElem?_eq_getElem (show j < l.length by omega)]
    simpa using h2 j hk
  ·rw [List.getElem?_eq_getElem hk]
   exact h1 _ (List.getElem_mem hk)
theorem Jqq {n : Int} {l : List T_api_Copy} (h : J8I n l = true) : ∀ (k : Nat) (hk : k < l.length), (k : Int) ≤ l[k].Page := by
 obtain ⟨h1, h2⟩ := JaN.1 h
 intro k
 induction k with
 | zero => intro hk; have := (J7o (h1 _ (List.getElem_mem hk))).1; omega
 | succ k ih => intro hk; have := ih (by omega); have := h2 k hk; omega
theorem Jj9 {n : Int} {l : List T_api_Copy} (h : J8I n l = true) (hn : 0 ≤ n) : (l.length : Int) ≤ n := by
 by_cases h0 : l.length = 0
 ·omega
 ·have h1 := Jqq h (l.length - 1) (by omega)
  have h2 := (J7o ((JaN.1 h).1 _ (List.getElem_mem (show l.length - 1 < l.length by omega)))).2.2.1
  omega
theorem J3N (x : T_api_Image) (hl : x.Copies.length < 1000000) : J1b x = some (J8T x) := by
 obtain ⟨a, n, l⟩ := x
 unfold J1b J8T
 dsimp only at hl ⊢
 by_cases h1 : a < 1
 ·simp [h1, show ¬ 1 ≤ a by omega]
 by_cases h2 : a > 1073741824
 ·simp [h1, h2, show ¬ a ≤ 1073741824 by omega]
 by_cases h3 : n < 1
 ·simp [h1, h2, h3, show ¬ 1 ≤ n by omega]
 by_cases h4 : n > 64
 ·simp [h1, h2, h3, h4, show ¬ n ≤ 64 by omega]
 by_cases h5 : (l.length : Int) > n
 ·have : J8I n l = false := by
   cases hc : J8I n l with
   | false => rfl
   | true => have := Jj9 hc (by omega); omega
  simp [h1, h2, h3, h4, h5, this]
 ·simp only [h1, h2, h3, h4, h5, decide_false, Bool.false_eq_true, if_false, Jhs a n l hl]
  simp [show 1 ≤ a by omega, show a ≤ 1073741824 by omega, show 1 ≤ n by omega, show n ≤ 64 by omega]
theorem J90 (x : T_api_Image) (hl : x.Copies.length < 1000000) : J4i x = some (J8T x) := by
 obtain ⟨a, n, l⟩ := x
 unfold J4i J8T
 dsimp only at hl ⊢
 by_cases h1 : a < 1
 ·simp [h1, show ¬ 1 ≤ a by omega]
 by_cases h2 : a > 1073741824
 ·simp [h1, h2, show ¬ a ≤ 1073741824 by omega]
 by_cases h3 : n < 1
 ·simp [h1, h2, h3, show ¬ 1 ≤ n by omega]
 by_cases h4 : n > 64
 ·simp [h1, h2, h3, h4, show ¬ n ≤ 64 by omega]
 ·simp only [h1, h2, h3, h4, decide_false, Bool.false_eq_true, if_false, Jkg a n l hl]
  simp [show 1 ≤ a by omega, show a ≤ 1073741824 by omega, show 1 ≤ n by omega, show n ≤ 64 by omega]
structure J2y (x : T_api_Image) : Prop where
 id1 : 1 ≤ x.ID
 id2 : x.ID ≤ 1073741824
 p1 : 1 ≤ x.Pages
 p2 : x.Pages ≤ 64
 copies : ∀ c ∈ x.Copies, J6X x.Pages c = true
 asc : ∀ (k : Nat) (h : k + 1 < x.Copies.length), x.Copies[k].Page < x.Copies[k + 1].Page
theorem J4I {x : T_api_Image} : J8T x = true ↔ J2y x := by
 unfold J8T
 simp only [Bool.and_eq_true, decide_eq_true_eq, JaN]
 exact ⟨fun ⟨a, b, c, d, e, f⟩ => ⟨a, b, c, d, e, f⟩, fun h => ⟨h.1, h.2, h.3, h.4, h.5, h.6⟩⟩
theorem J2y.len {x : T_api_Image} (h : J2y x) : (x.Copies.length : Int) ≤ x.Pages := Jj9 (JaN.2 ⟨h.copies, h.asc⟩) (by have := h.p1; omega)
end Go.Am
end
section
namespace Go.Am
set_option maxRecDepth 16000
set_option linter.unusedSimpArgs false
set_option linter.unusedVariables false
theorem Jwl (x : Nat) : J8b .u64 (x : Int) 1 = some ((x / 2 : Nat) : Int) := by
 show some ((x : Int).fdiv 2) = _
 rw [Int.fdiv_eq_ediv_of_nonneg _ (by omega)]; simp
def Asc (l : List T_api_Copy) : Prop := ∀ (i j : Nat) (h : j < l.length) (hij : i < j), l[i].Page < l[j].Page
theorem Jvj {l : List T_api_Copy} (h : ∀ (k : Nat) (h : k + 1 < l.length), l[k].Page < l[k + 1].Page) : Asc l := by
 intro i j hj hij
 induction j with
 | zero => omega
 | succ j ih =>
  rcases Nat.lt_or_ge i j with h1 | h1
  ·have := ih (by omega) h1
   have := h j hj
   omega
  ·obtain rfl : i = j := by omega
   exact h i hj
theorem J2y.ord {x : T_api_Image} (h : J2y x) : Asc x.Copies := Jvj h.asc
theorem J2y.page {x : T_api_Image} (h : J2y x) {k : Nat} (hk : k < x.Copies.length) : 0 ≤ x.Copies[k].Page ∧ x.Copies[k].Page < 64 := by
 have := J7o (h.copies _ (List.getElem_mem hk)); omega
def Cut (l : List T_api_Copy) (id : Int) (k : Nat) : Prop := k ≤ l.length ∧ (∀ (j : Nat) (h : j < l.length), j < k → l[j].Page < id) ∧ ∀ (j : Nat) (h : j < l.length), k ≤ j → id ≤ l[j].Page
def J5Y (l : List T_api_Copy) (id : Int) (k : Nat) : Bool := match l[k]? with
 | some c => c.Page == id
 | none => false
theorem JkV (c : T_api_Copy) {id : Int} (h : 0 ≤ c.Page ∧ c.Page < 64) (h0 : 0 ≤ id) (h1 : id < 64) : J7w c id = some (c.Page - id) := by
 unfold J7w; rw [wrap64 (by omega) (by omega)]
theorem JkL {x : T_api_Image} (hx : J2y x) {id : Int} (h0 : 0 ≤ id) (h1 : id < 64) : ∃ k, Cut x.Copies id k ∧ Jbm x id = some ((k : Int), J5Y x.Copies id k) := by
 obtain ⟨a, n, l⟩ := x
 have hl : l.length ≤ 64 := by have := hx.len; have := hx.p2; simp at *; omega
 have ho : Asc l := hx.ord
 have hp : ∀ (k : Nat) (hk : k < l.length), 0 ≤ l[k].Page ∧ l[k].Page < 64 := fun k hk => hx.page hk
 have key : ∃ r, J04 l id (l.length : Int) (0, (l.length : Int)) = some r ∧ ∃ k, Cut l id k ∧ r = ((k : Int), J5Y l id k) := by
  unfold J04
  refine J0R (fun s : Int × Int => ∃ i j : Nat, s = ((i : Int), (j : Int)) ∧ i ≤ j ∧ j ≤ l.length ∧ (∀ (t : Nat) (h : t < l.length), t < i → l[t].Page < id) ∧ ∀ (t : Nat) (h : t < l.length), j ≤ t → id ≤ l[t].Page)
   (fun s => (s.2 - s.1).toNat) _ ?_ _ ⟨0, l.length, rfl, by omega, by omega, fun t _ ht => by omega, fun t h ht => by omega⟩
  rintro s ⟨i, j, rfl, hij, hj, hA, hB⟩
  dsimp only
  unfold J1a
  by_cases hlt : i < j
  ·left
   have e1 : J8b .u64 (IntKind.wrap .u64 (IntKind.wrap .i64 ((i : Int) + (j : Int)))) 1 = some (((i + j) / 2 : Nat) : Int) := by
    rw [wrap64 (by omega) (by omega), J8A (by omega) (by omega), show (i : Int) + (j : Int) = ((i + j : Nat) : Int) by omega, Jwl]
   have hm : (i + j) / 2 < l.length := by omega
   have e2 : IntKind.wrap .i64 (((i + j) / 2 : Nat) : Int) = (((i + j) / 2 : Nat) : Int) := wrap64 (by omega) (by omega)
   rw [if_pos (by simp; omega), e1, Option.bind_some, e2, J5J, List.getElem?_eq_getElem hm, Option.bind_some, JkV _ (hp _ hm) h0 h1, Option.bind_some]
   by_cases hc : l[(i + j) / 2].Page < id
   ·rw [if_pos (by simp; omega)]
    refine ⟨_, rfl, ⟨(i + j) / 2 + 1, j, ?_, by omega, hj, fun t ht h2 => ?_, hB⟩, ?_⟩
    ·rw [wrap64 (by omega) (by omega)]; congr 1
    ·rcases Nat.lt_or_ge t ((i + j) / 2) with h3 | h3
     ·have := ho t _ hm h3; omega
     ·obtain rfl : t = (i + j) / 2 := by omega
      exact hc
    ·dsimp only; rw [wrap64 (by omega) (by omega)]; omega
   ·rw [if_neg (by simp; omega)]
    refine ⟨_, rfl, ⟨i, (i + j) / 2, rfl, by omega, by omega, hA, fun t ht h2 => ?_⟩, ?_⟩
    ·rcases Nat.eq_or_lt_of_le h2 with h3 | h3
     ·subst h3; omega
     ·have := ho _ t ht h3; omega
    ·dsimp only; omega
  ·right
   obtain rfl : i = j := by omega
   rw [if_neg (by simp)]
   refine ⟨((i : Int), J5Y l id i), ?_, i, ⟨hj, hA, hB⟩, rfl⟩
   unfold J18
   by_cases hi : i < l.length
   ·rw [if_pos (by simp; omega), J5J, List.getElem?_eq_getElem hi, Option.bind_some, JkV _ (hp _ hi) h0 h1, Option.bind_some]
    simp only [J5Y, List.getElem?_eq_getElem hi, Option.map_some]
    congr 3
    rw [Bool.eq_iff_iff]; simp; omega
   ·rw [if_neg (by simp; omega)]
    simp [J5Y, List.getElem?_eq_none (show l.length ≤ i by omega)]
 obtain ⟨r, hr, k, hk, rfl⟩ := key
 refine ⟨k, hk, ?_⟩
 unfold Jbm J1f
 dsimp only
 rw [hr]
 rfl
def Jb7 (l : List T_api_Copy) (c : T_api_Copy) (k : Nat) : List T_api_Copy := l.take k ++ c :: l.drop (if J5Y l c.Page k then k + 1 else k)
theorem JmL {l : List T_api_Copy} (h : l.length ≤ 1000) : J3x l = some l := by
 unfold J3x; rw [if_pos (by omega)]
theorem Jkt {x : T_api_Image} (hx : J2y x) {id : Int} {s : List UInt8} (h0 : 0 ≤ id) (h1 : id < x.Pages) (hs : (idn s id).2 = 0) {k : Nat} (hk : Cut x.Copies id k) :
  J3f x id s = some (⟨x.ID, x.Pages, Jb7 x.Copies ⟨id, (idn s id).1.LSN, s⟩ k⟩, 0) := by
 have hl : x.Copies.length ≤ 64 := by have := hx.len; have := hx.p2; omega
 have h64 : id < 64 := by have := hx.p2; omega
 unfold J3f
 rw [J3N x (by omega), J4I.2 hx, Option.bind_some, if_pos rfl, if_neg (by simp; omega), if_neg (by simp; omega), Ja2, Option.bind_some, if_neg (by simp [hs])]
 obtain ⟨k', hk', e⟩ := JkL hx h0 h64
 have hkk : k' = k := by
  rcases Nat.lt_trichotomy k' k with h | h | h
  ·have a := hk.2.1 k' (by have := hk.1; omega) h
   have b := hk'.2.2 k' (by have := hk.1; omega) (Nat.le_refl _)
   omega
  ·exact h
  ·have a := hk'.2.1 k (by have := hk'.1; omega) h
   have b := hk.2.2 k (by have := hk'.1; omega) (Nat.le_refl _)
   omega
 subst hkk
 rw [e, Option.bind_some, JmL (by omega), Option.bind_some]
 dsimp only
 unfold Jb7
 by_cases ht : J5Y x.Copies id k' = true
 ·have hlt : k' < x.Copies.length := by
   rcases Nat.lt_or_ge k' x.Copies.length with h | h
   ·exact h
   ·simp [J5Y, List.getElem?_eq_none h] at ht
  rw [if_pos ht]
  dsimp only
  rw [if_pos ht]
  unfold J9l
  rw [J5J, List.getElem?_eq_getElem hlt, Option.bind_some, Option.bind_some, Int.toNat_natCast, List.set_eq_take_append_cons_drop, if_pos hlt]
 ·rw [if_neg ht]
  dsimp only
  rw [if_neg ht]
  have hk2 := hk'.1
  have e2 : J3d x.Copies (k' : Int) [⟨0, 0, []⟩] = some (x.Copies.take k' ++ ⟨0, 0, []⟩ :: x.Copies.drop k') := by
   unfold J3d JpL
   dsimp only
   rw [if_pos ⟨by omega, by omega, by simp [J63]; omega⟩, Int.toNat_natCast]
  have e3 : (x.Copies.take k').length = k' := by simp; omega
  rw [e2, Option.bind_some]
  unfold J9l
  have e4 : idx (x.Copies.take k' ++ (⟨0, 0, []⟩ : T_api_Copy) :: x.Copies.drop k') (k' : Int) = some ⟨0, 0, []⟩ := by
   rw [J5J, List.getElem?_append_right (by omega), e3, Nat.sub_self]; rfl
  rw [e4, Option.bind_some, Option.bind_some, Int.toNat_natCast, List.set_append_right _ _ (by omega), e3, Nat.sub_self]
  rfl
end Go.Am
end
section
namespace Go.Am
set_option maxRecDepth 16000
set_option linter.unusedSimpArgs false
set_option linter.unusedVariables false
theorem JaW {l : List T_api_Copy} {id : Int} {k : Nat} : J5Y l id k = true ↔ ∃ h : k < l.length, l[k].Page = id := by
 unfold J5Y
 rcases Nat.lt_or_ge k l.length with h | h
 ·simp [List.getElem?_eq_getElem h, h]
 ·simp [List.getElem?_eq_none h]; omega
theorem JaI {l : List T_api_Copy} {c : T_api_Copy} (h : l.length ≤ 1000) : JaB 32 l [c] = some (l ++ [c]) := by
 have e : J63 (l.length + [c].length) 32 = true := by
  simp only [J63, List.length_cons, List.length_nil]
  simp; omega
 unfold JaB
 rw [if_pos e]
theorem JjO {α : Type} {l : List α} {k' j : Nat} (h : j < l.length) (h2 : k' ≤ j) : (l.drop k').take (j - k') ++ [l[j]] = (l.drop k').take (j + 1 - k') := by
 rw [show j + 1 - k' = (j - k') + 1 by omega, List.take_add_one, List.getElem?_drop, show k' + (j - k') = j by omega, List.getElem?_eq_getElem h]
 rfl
theorem JoX {x : T_api_Image} (hx : J2y x) {id : Int} {s : List UInt8} (h0 : 0 ≤ id) (h1 : id < x.Pages) (hs : (idn s id).2 = 0) {k : Nat} (hk : Cut x.Copies id k) :
  J2i x id s = some (⟨x.ID, x.Pages, Jb7 x.Copies ⟨id, (idn s id).1.LSN, s⟩ k⟩, 0) := by
 have hl : x.Copies.length ≤ 64 := by have := hx.len; have := hx.p2; omega
 have h64 : id < 64 := by have := hx.p2; omega
 have ho := hx.ord
 unfold J2i
 rw [J90 x (by omega), J4I.2 hx, Option.bind_some, if_pos rfl, if_neg (by simp; omega), if_neg (by simp; omega), JdH, Option.bind_some, if_neg (by simp [hs])]
 generalize hc : (⟨id, (idn s id).1.LSN, s⟩ : T_api_Copy) = c
 have hcp : c.Page = id := by rw [← hc]
 obtain ⟨a, n, l⟩ := x
 dsimp only at *
 obtain ⟨k', hk'⟩ : ∃ k', k' = if J5Y l id k then k + 1 else k := ⟨_, rfl⟩
 have hkk : k ≤ k' ∧ k' ≤ k + 1 := by rw [hk']; split <;> omega
 have hput : Jb7 l c k = l.take k ++ c :: l.drop k' := by unfold Jb7; rw [hcp, hk']
 obtain ⟨r, hr, rfl⟩ : ∃ r, J9f id ⟨a, n, l⟩ [] 0 0 c a n (false, 0, []) = some r ∧ r = (⟨a, n, Jb7 l c k⟩, 0) := by
  unfold J9f
  refine J0R (fun s : Bool × Int × List T_api_Copy => ∃ j : Nat, j ≤ l.length ∧ s = (decide (k < j), (j : Int), if k < j then l.take k ++ c :: (l.drop k').take (j - k') else l.take j)) (fun s => (l.length - s.2.1).toNat) _ ?_ _ ⟨0, by omega, by simp⟩
  rintro _ ⟨j, hj, rfl⟩
  dsimp only
  unfold J7O
  dsimp only
  rcases Nat.lt_or_ge j l.length with hlt | hge
  ·left
   have e3 : IntKind.wrap .i64 ((j : Int) + 1) = ((j + 1 : Nat) : Int) := by rw [wrap64 (by omega) (by omega)]; omega
   have ei : idx l (j : Int) = some l[j] := by rw [J5J, List.getElem?_eq_getElem hlt]
   rw [if_pos (by simp; omega)]
   rcases Nat.lt_trichotomy j k with h | h | h
   ·
    have hpg := hk.2.1 j hlt h
    refine ⟨(decide (k < j + 1), ((j + 1 : Nat) : Int), if k < j + 1 then l.take k ++ c :: (l.drop k').take (j + 1 - k') else l.take (j + 1)), ?_, ⟨j + 1, by omega, rfl⟩, by dsimp only; omega⟩
    rw [show decide (k < j) = false by simp; omega, if_neg (show ¬ k < j by omega), show decide (k < j + 1) = false by simp; omega, if_neg (show ¬ k < j + 1 by omega)]
    simp only [Bool.false_eq_true, if_false, ei, Option.bind_some]
    rw [if_neg (by simp; omega)]
    unfold J4p
    simp only [ei, Option.bind_some]
    rw [if_pos (by simp; omega), JaI (by simp; omega), Option.bind_some]
    unfold J4l
    rw [e3, List.take_add_one, List.getElem?_eq_getElem hlt]
    rfl
   ·
    subst h
    have hpg := hk.2.2 j hlt (Nat.le_refl _)
    refine ⟨(decide (j < j + 1), ((j + 1 : Nat) : Int), if j < j + 1 then l.take j ++ c :: (l.drop k').take (j + 1 - k') else l.take (j + 1)), ?_, ⟨j + 1, by omega, rfl⟩, by dsimp only; omega⟩
    rw [show decide (j < j) = false by simp, if_neg (show ¬ j < j by omega), show decide (j < j + 1) = true by simp, if_pos (show j < j + 1 by omega)]
    simp only [Bool.false_eq_true, if_false, ei, Option.bind_some]
    rw [if_pos (by simp; omega), JaI (by simp; omega), Option.bind_some]
    unfold J4p
    simp only [ei, Option.bind_some]
    by_cases hp : l[j].Page = id
    ·have : k' = j + 1 := by rw [hk', if_pos (JaW.2 ⟨hlt, hp⟩)]
     subst this
     rw [if_neg (by simp [hp])]
     unfold J4l
     rw [e3, Nat.sub_self]
     rfl
    ·have : k' = j := by rw [hk', if_neg (fun h => hp (JaW.1 h).2)]
     subst this
     rw [if_pos (by simp [hp]), JaI (by simp; omega), Option.bind_some]
     unfold J4l
     rw [e3, show k' + 1 - k' = 0 + 1 by omega, List.take_add_one, List.getElem?_drop, show k' + 0 = k' from rfl, List.getElem?_eq_getElem hlt]
     simp
   ·
    have hpg := hk.2.2 k (by omega) (Nat.le_refl _)
    have hpj := ho k j hlt h
    refine ⟨(decide (k < j + 1), ((j + 1 : Nat) : Int), if k < j + 1 then l.take k ++ c :: (l.drop k').take (j + 1 - k') else l.take (j + 1)), ?_, ⟨j + 1, by omega, rfl⟩, by dsimp only; omega⟩
    rw [show decide (k < j) = true by simp; omega, if_pos h, show decide (k < j + 1) = true by simp; omega, if_pos (show k < j + 1 by omega)]
    simp only [if_true]
    unfold J4p
    simp only [ei, Option.bind_some]
    rw [if_pos (by simp; omega), JaI (by simp; omega), Option.bind_some]
    unfold J4l
    rw [e3, List.append_assoc, List.cons_append, JjO hlt (by omega)]
  ·right
   obtain rfl : j = l.length := by omega
   rw [if_neg (by simp), hput]
   unfold J9o
   by_cases hkl : k < l.length
   ·rw [show decide (k < l.length) = true by simpa using hkl, if_pos hkl]
    rw [if_pos rfl]
    refine ⟨_, rfl, ?_⟩
    rw [List.take_of_length_le (l := l.drop k') (by rw [List.length_drop]; omega)]
   ·have hkl2 : k = l.length := by have := hk.1; omega
    rw [show decide (k < l.length) = false by simpa using hkl, if_neg hkl]
    rw [if_neg (by decide), JaI (by simp; omega), Option.bind_some]
    refine ⟨_, rfl, ?_⟩
    rw [hkl2, List.drop_eq_nil_of_le (by omega)]
 exact hr
theorem Jqj {x : T_api_Image} (hx : J2y x) {id : Int} (h0 : 0 ≤ id) (h1 : id < 64) : ∃ k, Cut x.Copies id k := by
 obtain ⟨k, hk, _⟩ := JkL hx h0 h1
 exact ⟨k, hk⟩
theorem Ji8 {x : T_api_Image} (hl : x.Copies.length < 1000000) (id : Int) (s : List UInt8) : J2i x id s = J3f x id s := by
 by_cases hx : J2y x
 ·by_cases hr : 0 ≤ id ∧ id < x.Pages
  ·by_cases hs : (idn s id).2 = 0
   ·obtain ⟨k, hk⟩ := Jqj hx hr.1 (by have := hx.p2; omega)
    rw [JoX hx hr.1 hr.2 hs hk, Jkt hx hr.1 hr.2 hs hk]
   ·unfold J2i J3f
    rw [J90 x hl, J3N x hl]
    simp only [Option.bind_some, JdH, Ja2, show ((idn s id).2 != 0) = true by simpa using hs, if_true]
  ·unfold J2i J3f
   rw [J90 x hl, J3N x hl]
   simp only [Option.bind_some, JdH, Ja2]
   by_cases hneg : id < 0
   ·simp [hneg]
   ·simp [hneg, show id ≥ x.Pages by omega]
 ·unfold J2i J3f
  rw [J90 x hl, J3N x hl]
  have : J8T x = false := by
   cases h : J8T x with
   | false => rfl
   | true => exact absurd (J4I.1 h) hx
  simp [this]
def JqK : T_api_Copy := ⟨0, 0, []⟩
def JcU (l : List T_api_Copy) (id : Int) : T_api_Copy × Bool := match l.find? (fun c => c.Page == id) with
 | some c => (c, true)
 | none => (JqK, false)
theorem Jqa {f : Int → Option (Int ⊕ Bool)} {l l' : List T_api_Copy} (hl : l.length < 1000000) (hll : l.length = l'.length)
  (h1 : ∀ (k : Nat) (h : k < l.length), f (k : Int) = some (if (l[k] == l'[k]) = true then .inl ((k + 1 : Nat) : Int) else .inr false)) (h2 : f (l.length : Int) = some (.inr true)) : Jv f 0 = some (l == l') := by
 rw [Jej (n := l.length) (fun k => l[k]? == l'[k]?) false true hl (fun k h => by
  rw [h1 k h, List.getElem?_eq_getElem h, List.getElem?_eq_getElem (by omega)]
  simp) h2, JfL]
 congr 1
 rw [Bool.eq_iff_iff]
 simp only [List.all_eq_true, List.mem_range, beq_iff_eq]
 constructor
 ·intro h
  apply List.ext_getElem?
  intro k
  rcases Nat.lt_or_ge k l.length with hk | hk
  ·exact h k hk
  ·rw [List.getElem?_eq_none hk, List.getElem?_eq_none (by omega)]
 ·rintro rfl k _
  rfl
theorem JpS {x y : T_api_Image} (hl : x.Copies.length < 1000000) : J62 x y = some (x == y) := by
 obtain ⟨a, n, l⟩ := x
 obtain ⟨a', n', l'⟩ := y
 unfold J62 J0B
 dsimp only at *
 have e : ((⟨a, n, l⟩ : T_api_Image) == ⟨a', n', l'⟩) = ((a == a') && ((n == n') && (l == l'))) := by
  rw [Bool.eq_iff_iff]; simp
 rw [e]
 cases h1 : (a == a')
 ·rfl
 cases h2 : (n == n')
 ·rfl
 simp only [if_true, Bool.true_and]
 by_cases h3 : l.length = l'.length
 ·rw [if_neg (by simp [h3])]
  unfold J30
  rw [Jqa hl h3 (fun k hk => by
   unfold J0h
   rw [if_pos (by simp; omega), J5J, J5J, List.getElem?_eq_getElem hk, List.getElem?_eq_getElem (by omega), Option.bind_some, Option.bind_some]
   have e3 : IntKind.wrap .i64 ((k : Int) + 1) = ((k + 1 : Nat) : Int) := by rw [wrap64 (by omega) (by omega)]; omega
   rw [e3]
   cases l[k] == l'[k] <;> rfl) (by
   unfold J0h
   rw [if_neg (by simp)]
   rfl)]
  rfl
 ·rw [if_pos (by simp; omega)]
  have : (l == l') = false := by
   cases h : l == l' with
   | false => rfl
   | true => simp at h; exact absurd (by rw [h]) h3
  rw [this]; rfl
end Go.Am
end
section
namespace Go.Am
set_option maxRecDepth 16000
set_option linter.unusedSimpArgs false
set_option linter.unusedVariables false
theorem Jq5 {l : List T_api_Copy} : Asc l ↔ l.Pairwise fun a b => a.Page < b.Page := by
 rw [List.pairwise_iff_getElem]
 exact ⟨fun h i j hi hj hij => h i j hj hij, fun h i j hj hij => h i j (by omega) hj hij⟩
theorem JoY {l : List T_api_Copy} {id : Int} {k : Nat} (hk : Cut l id k) : ∀ y ∈ l.take k, y.Page < id ∧ y ∈ l := by
 intro y hy
 obtain ⟨j, hj, rfl⟩ := List.mem_iff_getElem.1 hy
 simp only [List.length_take] at hj
 rw [List.getElem_take]
 exact ⟨hk.2.1 j (by omega) (by omega), List.getElem_mem _⟩
theorem Jk5 {l : List T_api_Copy} (ho : Asc l) {id : Int} {k : Nat} (hk : Cut l id k) : ∀ y ∈ l.drop (if J5Y l id k then k + 1 else k), id < y.Page ∧ y ∈ l := by
 intro y hy
 obtain ⟨j, hj, rfl⟩ := List.mem_iff_getElem.1 hy
 simp only [List.length_drop] at hj
 rw [List.getElem_drop]
 refine ⟨?_, List.getElem_mem _⟩
 by_cases ht : J5Y l id k = true
 ·obtain ⟨h1, h2⟩ := JaW.1 ht
  simp only [ht, if_true] at hj ⊢
  have := ho k (k + 1 + j) (by omega) (by omega)
  omega
 ·simp only [ht, Bool.false_eq_true, if_false] at hj ⊢
  have h0 := hk.2.2 (k + j) (by omega) (by omega)
  rcases Nat.eq_zero_or_pos j with hz | hz
  ·subst hz
   have : l[k].Page ≠ id := fun h => ht (JaW.2 ⟨by omega, h⟩)
   simp only [Nat.add_zero] at h0 ⊢
   omega
  ·have := ho k (k + j) (by omega) (by omega)
   have := hk.2.2 k (by omega) (Nat.le_refl _)
   omega
theorem Jdw {l : List T_api_Copy} (ho : Asc l) {c : T_api_Copy} {k : Nat} (hk : Cut l c.Page k) (y : T_api_Copy) : y ∈ Jb7 l c k ↔ y = c ∨ (y ∈ l ∧ y.Page ≠ c.Page) := by
 unfold Jb7
 rw [List.mem_append, List.mem_cons]
 constructor
 ·rintro (h | h | h)
  ·have := JoY hk y h; exact .inr ⟨this.2, by omega⟩
  ·exact .inl h
  ·have := Jk5 ho hk y h; exact .inr ⟨this.2, by omega⟩
 ·rintro (h | ⟨h, hne⟩)
  ·exact .inr (.inl h)
  ·obtain ⟨j, hj, rfl⟩ := List.mem_iff_getElem.1 h
   rcases Nat.lt_or_ge j k with h1 | h1
   ·exact .inl (List.mem_iff_getElem.2 ⟨j, by simp; omega, by rw [List.getElem_take]⟩)
   ·refine .inr (.inr ?_)
    have hge : (if J5Y l c.Page k then k + 1 else k) ≤ j := by
     split
     ·rename_i ht
      obtain ⟨h3, h4⟩ := JaW.1 ht
      rcases Nat.eq_or_lt_of_le h1 with h5 | h5
      ·subst h5; exact absurd h4 hne
      ·exact h5
     ·exact h1
    generalize (if J5Y l c.Page k then k + 1 else k) = k' at hge
    exact List.mem_iff_getElem.2 ⟨j - k', by simp; omega, by rw [List.getElem_drop]; congr 1; omega⟩
theorem JoG {l : List T_api_Copy} (ho : Asc l) {c : T_api_Copy} {k : Nat} (hk : Cut l c.Page k) : Asc (Jb7 l c k) := by
 rw [Jq5]
 have hp := Jq5.1 ho
 unfold Jb7
 rw [List.pairwise_append, List.pairwise_cons]
 refine ⟨hp.sublist (List.take_sublist _ _), ⟨fun y hy => (Jk5 ho hk y hy).1, hp.sublist (List.drop_sublist _ _)⟩, fun a ha b hb => ?_⟩
 have h1 := (JoY hk a ha).1
 rcases List.mem_cons.1 hb with h | h
 ·rw [h]; exact h1
 ·have := (Jk5 ho hk b h).1; omega
theorem Jrb {x : T_api_Image} (hx : J2y x) {id : Int} {s : List UInt8} (h0 : 0 ≤ id) (h1 : id < x.Pages) (hs : (idn s id).2 = 0) {k : Nat} (hk : Cut x.Copies id k) :
  J2y ⟨x.ID, x.Pages, Jb7 x.Copies ⟨id, (idn s id).1.LSN, s⟩ k⟩ := by
 have ho := hx.ord
 refine ⟨hx.id1, hx.id2, hx.p1, hx.p2, fun y hy => ?_, fun j hj => JoG (c := ⟨id, (idn s id).1.LSN, s⟩) ho hk j (j + 1) hj (by omega)⟩
 rcases (Jdw (c := ⟨id, (idn s id).1.LSN, s⟩) ho hk y).1 hy with h | h
 ·subst h
  simp [J6X, h1, hs]
 ·exact hx.copies y h.1
theorem JhR {l : List T_api_Copy} (ho : Asc l) {id : Int} {y : T_api_Copy} (hy : y ∈ l) (hid : y.Page = id) : JcU l id = (y, true) := by
 unfold JcU
 cases hf : l.find? (fun c => c.Page == id) with
 | none => have := List.find?_eq_none.1 hf y hy; simp [hid] at this
 | some c =>
  have h1 := List.find?_some hf
  have h2 := List.mem_of_find?_eq_some hf
  obtain ⟨i, hi, rfl⟩ := List.mem_iff_getElem.1 hy
  obtain ⟨j, hj, rfl⟩ := List.mem_iff_getElem.1 h2
  simp only [beq_iff_eq] at h1
  have : i = j := by
   rcases Nat.lt_trichotomy i j with h | h | h
   ·have := ho i j hj h; omega
   ·exact h
   ·have := ho j i hi h; omega
  subst this
  rfl
theorem JmD {l : List T_api_Copy} {id : Int} (h : ∀ y ∈ l, y.Page ≠ id) : JcU l id = (JqK, false) := by
 unfold JcU
 rw [List.find?_eq_none.2 fun c hc => by simpa using h c hc]
theorem Jrl {l : List T_api_Copy} (ho : Asc l) {c : T_api_Copy} {k : Nat} (hk : Cut l c.Page k) (id : Int) : JcU (Jb7 l c k) id = if id = c.Page then (c, true) else JcU l id := by
 have ho' := JoG ho hk
 by_cases h : id = c.Page
 ·rw [if_pos h]
  exact JhR ho' ((Jdw ho hk c).2 (.inl rfl)) h.symm
 ·rw [if_neg h]
  by_cases hx : ∃ y ∈ l, y.Page = id
  ·obtain ⟨y, hy, hid⟩ := hx
   rw [JhR ho hy hid, JhR ho' ((Jdw ho hk y).2 (.inr ⟨hy, by omega⟩)) hid]
  ·rw [JmD fun y hy => ?_, JmD fun y hy => ?_]
   ·exact fun e => hx ⟨y, hy, e⟩
   ·intro e
    rcases (Jdw ho hk y).1 hy with h2 | h2
    ·subst h2; exact h e.symm
    ·exact hx ⟨y, h2.1, e⟩
theorem JsM {x : T_api_Image} (hx : J2y x) {id : Int} {s : List UInt8} (h0 : 0 ≤ id) (h1 : id < x.Pages) (hs : (idn s id).2 = 0) :
  ∃ y, J3f x id s = some (y, 0) ∧ J2i x id s = some (y, 0) ∧ J2y y ∧ y.ID = x.ID ∧ y.Pages = x.Pages ∧ (∀ z, z ∈ y.Copies ↔ z = ⟨id, (idn s id).1.LSN, s⟩ ∨ (z ∈ x.Copies ∧ z.Page ≠ id)) ∧
   ∀ i, JcU y.Copies i = if i = id then (⟨id, (idn s id).1.LSN, s⟩, true) else JcU x.Copies i := by
 obtain ⟨k, hk⟩ := Jqj hx h0 (by have := hx.p2; omega)
 exact ⟨_, Jkt hx h0 h1 hs hk, JoX hx h0 h1 hs hk, Jrb hx h0 h1 hs hk, rfl, rfl, fun z => Jdw (c := ⟨id, (idn s id).1.LSN, s⟩) hx.ord hk z, fun i => Jrl (c := ⟨id, (idn s id).1.LSN, s⟩) hx.ord hk i⟩
theorem JtT {x : T_api_Image} (hl : x.Copies.length < 1000000) (id : Int) (s : List UInt8) : ∃ r, J3f x id s = some r ∧ J2i x id s = some r ∧ (r.2 = 0 → J2y x ∧ J2y r.1 ∧ r.1.Pages = x.Pages) ∧ (r.2 ≠ 0 → r.1 = ⟨0, 0, []⟩) := by
 by_cases hx : J2y x
 ·by_cases hr : 0 ≤ id ∧ id < x.Pages
  ·by_cases hs : (idn s id).2 = 0
   ·obtain ⟨y, e1, e2, h1, _, h2, _⟩ := JsM hx hr.1 hr.2 hs
    exact ⟨_, e1, e2, fun _ => ⟨hx, h1, h2⟩, fun h => absurd rfl h⟩
   ·rw [Ji8 hl]
    unfold J3f
    rw [J3N x hl, J4I.2 hx, Option.bind_some, if_pos rfl, if_neg (by simp; omega), if_neg (by simp; omega), Ja2, Option.bind_some, if_pos (by simpa using hs)]
    exact ⟨_, rfl, rfl, fun h => absurd h hs, fun _ => rfl⟩
  ·rw [Ji8 hl]
   unfold J3f
   rw [J3N x hl, J4I.2 hx, Option.bind_some, if_pos rfl]
   by_cases hneg : id < 0
   ·rw [if_pos (by simpa using hneg)]
    exact ⟨_, rfl, rfl, fun h => by simp at h, fun _ => rfl⟩
   ·rw [if_neg (by simpa using hneg), if_pos (by simp; omega)]
    exact ⟨_, rfl, rfl, fun h => by simp at h, fun _ => rfl⟩
 ·rw [Ji8 hl]
  unfold J3f
  have : J8T x = false := by
   cases h : J8T x with
   | false => rfl
   | true => exact absurd (J4I.1 h) hx
  rw [J3N x hl, this, Option.bind_some, if_neg (by decide)]
  exact ⟨_, rfl, rfl, fun h => by simp at h, fun _ => rfl⟩
end Go.Am
end
section
namespace Go.Am
set_option maxRecDepth 16000
set_option linter.unusedSimpArgs false
set_option linter.unusedVariables false
def leV : List UInt8 → Nat
 | [] => 0
 | b :: r => b.toNat + 256 * leV r
theorem Jds : ∀ l : List UInt8, leV l < 2 ^ (8 * l.length)
 | [] => by simp [leV]
 | b :: r => by
  have := Jds r
  have hb := UInt8.toNat_lt b
  simp only [leV, List.length_cons]
  rw [show 8 * (r.length + 1) = 8 * r.length + 8 by omega, Nat.pow_add]
  omega
theorem JkD {b m k : Nat} (hb : b < 256) (h : b + 256 * m < 2 ^ 64) : Jj ((b + 256 * m : Nat) : Int) (k + 1) = UInt8.ofNat b :: Jj (m : Int) k := by
 have hm : m < 2 ^ 64 := by omega
 unfold Jj toStr
 rw [List.range_succ_eq_map, List.map_cons, List.map_cons, List.map_map, List.map_map, List.map_map]
 congr 1
 ·rw [Jbv h]
  simp only [Nat.mul_zero, Nat.pow_zero, Nat.div_one, Int.toNat_natCast]
  congr 1; omega
 ·apply List.map_congr_left
  intro i _
  simp only [Function.comp]
  rw [Jbv h, Jbv hm]
  congr 2
  rw [Nat.succ_eq_add_one, show 8 * (i + 1) = 8 + 8 * i by omega, Nat.pow_add, ← Nat.div_div_eq_div_mul]
  congr 3; omega
theorem Jeg : ∀ {l : List UInt8}, l.length ≤ 7 → Jj ((leV l : Nat) : Int) l.length = l
 | [], _ => rfl
 | b :: r, h => by
  have h1 := Jds (b :: r)
  have h2 : leV (b :: r) < 2 ^ 64 := Nat.lt_of_lt_of_le h1 (Nat.pow_le_pow_right (by decide) (by simp at h ⊢; omega))
  simp only [leV, List.length_cons] at h2 ⊢
  rw [JkD (UInt8.toNat_lt b) h2, Jeg (by simp at h; omega)]
  simp
theorem J6Q {n k : Nat} (hk : k ≤ 7) (hn : n < 2 ^ (8 * k)) : leV (Jj (n : Int) k) = n := by
 induction k generalizing n with
 | zero => simp at hn; subst hn; rfl
 | succ k ih =>
  have h64 : n < 2 ^ 64 := Nat.lt_of_lt_of_le hn (Nat.pow_le_pow_right (by decide) (by omega))
  have e : n = n % 256 + 256 * (n / 256) := by omega
  rw [e, JkD (by omega) (by omega)]
  simp only [leV]
  rw [ih (by omega) (by
   rw [show 8 * (k + 1) = 8 * k + 8 by omega, Nat.pow_add] at hn
   omega)]
  simp
theorem Jc3 (s : List UInt8) (hs : s.length ≤ 1000000) {at_ k : Nat} (h1 : 1 ≤ k) (h4 : k ≤ 4) (ha : at_ ≤ 1000000) :
  JM s at_ k = some (if at_ + k ≤ s.length then (((leV ((s.drop at_).take k) : Nat) : Int), 0) else (0, 5)) := by
 by_cases h : at_ + k ≤ s.length
 ·rw [if_pos h]
  have hl : ((s.drop at_).take k).length = k := by simp; omega
  have e : s = s.take at_ ++ (Jj ((leV ((s.drop at_).take k) : Nat) : Int) k ++ s.drop (at_ + k)) := by
   have := Jeg (l := (s.drop at_).take k) (by omega)
   rw [hl] at this
   rw [this, ← List.drop_drop, List.take_append_drop, List.take_append_drop]
  have hlt := Jds ((s.drop at_).take k)
  rw [hl] at hlt
  have := Ju4 (s.take at_) (s.drop (at_ + k)) h1 (by omega) hlt (Nat.lt_of_lt_of_le hlt (Nat.pow_le_pow_right (by decide) (by omega))) (by rw [← e]; exact hs)
  rw [← e, List.length_take, Nat.min_eq_left (by omega)] at this
  exact this
 ·rw [if_neg h]
  have c1 : ¬ ((k : Int) < 1) := by omega
  have c2 : ¬ ((k : Int) > 8) := by omega
  have c3 : ¬ ((at_ : Int) < 0) := by omega
  unfold JM
  simp only [c1, c2, c3, decide_false, Bool.false_eq_true, if_false]
  by_cases c4 : (at_ : Int) > (s.length : Int)
  ·simp only [c4, decide_true, if_true]
  ·simp only [c4, decide_false, Bool.false_eq_true, if_false]
   rw [wrap64 (by omega) (by omega), if_pos (by simp; omega)]
theorem JcB (s : List UInt8) (hs : s.length ≤ 1000000) {at_ k : Nat} (h1 : 1 ≤ k) (h4 : k ≤ 4) (ha : at_ ≤ 1000000) :
  J1n s at_ k = some (if at_ + k ≤ s.length then (((leV ((s.drop at_).take k) : Nat) : Int), 0) else (0, 5)) := by
 rw [Jgf s at_ (by omega) (by omega), Jc3 s hs h1 h4 ha]
def part (s : List UInt8) (at_ n : Nat) : List UInt8 := (s.drop at_).take n
def unf (s : List UInt8) (at_ : Nat) : List UInt8 × Int × Int :=
 if at_ + 4 ≤ s.length then
  if leV (part s at_ 4) ≤ 8392 then
   if at_ + leV (part s at_ 4) + 8 ≤ s.length then
    if leV (part s (at_ + 4 + leV (part s at_ 4)) 4) = crc (part s at_ (4 + leV (part s at_ 4))) then (part s (at_ + 4) (leV (part s at_ 4)), ((at_ + leV (part s at_ 4) + 8 : Nat) : Int), 0) else ([], 0, 3)
   else ([], 0, 5)
  else ([], 0, 2)
 else ([], 0, 5)
theorem JdP (s : List UInt8) {a n : Nat} (h : a + n ≤ s.length) : J1i s (some (a : Int)) (some ((a + n : Nat) : Int)) = some (part s a n) := by
 rw [Jqr s (by omega) h, Nat.add_sub_cancel_left]; rfl
theorem J9R (s : List UInt8) (hs : s.length ≤ 100000) {at_ : Nat} (ha : at_ ≤ s.length) : J2u s at_ = some (unf s at_) := by
 unfold J2u unf
 rw [if_neg (by simp), if_neg (by simp; omega), show (4 : Int) = ((4 : Nat) : Int) from rfl, Jc3 s (by omega) (by decide) (by decide) (by omega), Option.bind_some]
 by_cases h1 : at_ + 4 ≤ s.length
 ·rw [if_pos h1, if_pos h1]
  have hL := Jds (part s at_ 4)
  rw [show (part s at_ 4).length = 4 by unfold part; rw [List.length_take, List.length_drop]; omega] at hL
  rw [show (s.drop at_).take 4 = part s at_ 4 from rfl]
  generalize hLe : leV (part s at_ 4) = L at hL
  rw [if_neg (by simp)]
  by_cases h2 : L ≤ 8392
  ·rw [if_neg (by simp; omega), if_pos h2]
   have e1 : IntKind.wrap .i64 (IntKind.wrap .i64 ((at_ : Int) + ((4 : Nat) : Int)) + ((L : Nat) : Int)) = ((at_ + 4 + L : Nat) : Int) := by
    rw [wrap64 (n := (at_ : Int) + ((4 : Nat) : Int)) (by omega) (by omega), wrap64 (by omega) (by omega)]; omega
   have e0 : IntKind.wrap .i64 ((at_ : Int) + ((4 : Nat) : Int)) = ((at_ + 4 : Nat) : Int) := by
    rw [wrap64 (by omega) (by omega)]; omega
   rw [e1, e0, Jc3 s (by omega) (by decide) (by decide) (by omega), Option.bind_some]
   by_cases h3 : at_ + L + 8 ≤ s.length
   ·rw [if_pos (show at_ + 4 + L + 4 ≤ s.length by omega), if_pos h3, if_neg (by simp)]
    rw [show at_ + 4 + L = at_ + (4 + L) by omega, JdP s (show at_ + (4 + L) ≤ s.length by omega), Option.bind_some, JdZ _ (by simp [part]; omega), Option.bind_some]
    have hc := JaU (part s at_ (4 + L))
    rw [wrap64 (n := ((crc (part s at_ (4 + L)) : Nat) : Int)) (by omega) (by omega)]
    rw [show (s.drop (at_ + (4 + L))).take 4 = part s (at_ + (4 + L)) 4 from rfl]
    by_cases h4 : leV (part s (at_ + (4 + L)) 4) = crc (part s at_ (4 + L))
    ·rw [if_pos h4, if_neg (by simp [h4]), ← Nat.add_assoc, JdP s (show at_ + 4 + L ≤ s.length by omega), Option.bind_some, wrap64 (by omega) (by omega)]
     congr 3; omega
    ·rw [if_neg h4, if_pos (by simp; omega)]
   ·rw [if_neg (show ¬ at_ + 4 + L + 4 ≤ s.length by omega), if_neg h3, if_pos (by simp)]
  ·rw [if_pos (by simp; omega), if_neg h2]
 ·rw [if_neg h1, if_neg h1, if_pos (by simp)]
theorem J9k (s : List UInt8) (hs : s.length ≤ 100000) {at_ : Nat} (ha : at_ ≤ s.length) : J6z s at_ = some (unf s at_) := by
 unfold J6z unf
 rw [if_neg (by simp), if_neg (by simp; omega), show (4 : Int) = ((4 : Nat) : Int) from rfl, JcB s (by omega) (by decide) (by decide) (by omega), Option.bind_some]
 by_cases h1 : at_ + 4 ≤ s.length
 ·rw [if_pos h1, if_pos h1]
  have hL := Jds (part s at_ 4)
  rw [show (part s at_ 4).length = 4 by unfold part; rw [List.length_take, List.length_drop]; omega] at hL
  rw [show (s.drop at_).take 4 = part s at_ 4 from rfl]
  generalize hLe : leV (part s at_ 4) = L at hL
  rw [if_neg (by simp)]
  by_cases h2 : L ≤ 8392
  ·rw [if_neg (by simp; omega), if_pos h2]
   have e1 : IntKind.wrap .i64 (IntKind.wrap .i64 ((at_ : Int) + ((4 : Nat) : Int)) + ((L : Nat) : Int)) = ((at_ + 4 + L : Nat) : Int) := by
    rw [wrap64 (n := (at_ : Int) + ((4 : Nat) : Int)) (by omega) (by omega), wrap64 (by omega) (by omega)]; omega
   have e0 : IntKind.wrap .i64 ((at_ : Int) + ((4 : Nat) : Int)) = ((at_ + 4 : Nat) : Int) := by
    rw [wrap64 (by omega) (by omega)]; omega
   rw [e1, e0, wrap64 (n := (s.length : Int) - (at_ : Int)) (by omega) (by omega)]
   dsimp only
   rw [wrap64 (n := ((L : Nat) : Int) + 8) (by omega) (by omega)]
   by_cases h3 : at_ + L + 8 ≤ s.length
   ·rw [if_neg (by simp; omega), JcB s (by omega) (by decide) (by decide) (by omega), Option.bind_some, if_pos (show at_ + 4 + L + 4 ≤ s.length by omega), if_pos h3]
    rw [show at_ + 4 + L = at_ + (4 + L) by omega, JdP s (show at_ + (4 + L) ≤ s.length by omega), Option.bind_some, Jk1 _ (by simp [part]; omega), Option.bind_some]
    have hc := JaU (part s at_ (4 + L))
    rw [show (s.drop (at_ + (4 + L))).take 4 = part s (at_ + (4 + L)) 4 from rfl]
    have hv := Jds (part s (at_ + (4 + L)) 4)
    rw [show (part s (at_ + (4 + L)) 4).length = 4 by simp [part]; omega] at hv
    rw [J9I _ hv]
    by_cases h4 : leV (part s (at_ + (4 + L)) 4) = crc (part s at_ (4 + L))
    ·rw [if_pos h4, if_neg (by simp [h4]), ← Nat.add_assoc, JdP s (show at_ + 4 + L ≤ s.length by omega), Option.bind_some, wrap64 (n := (at_ : Int) + 8) (by omega) (by omega), wrap64 (by omega) (by omega)]
     congr 3; omega
    ·rw [if_neg h4, if_pos (by simp; omega)]
   ·rw [if_pos (by simp; omega), if_neg h3]
  ·rw [if_pos (by simp; omega), if_neg h2]
 ·rw [if_neg h1, if_neg h1, if_pos (by simp)]
def J03 (p : List UInt8) : List UInt8 := Jj (p.length : Int) 4 ++ p ++ Jj ((crc (Jj (p.length : Int) 4 ++ p) : Nat) : Int) 4
theorem J2t (p : List UInt8) : (J03 p).length = p.length + 8 := by simp [J03, Jp]; omega
theorem JiJ {p : List UInt8} (h : p.length ≤ 8392) : J2K p = some (J03 p) := by
 unfold J2K
 rw [if_neg (by simp; omega), show (4 : Int) = ((4 : Nat) : Int) from rfl, Jg1 [] _ (by decide) (by decide) (by simp), Option.bind_some, List.nil_append, J9N (by simp [Jp]; omega), Option.bind_some, JdZ _ (by simp [Jp]; omega), Option.bind_some]
 have hc := JaU (Jj (p.length : Int) 4 ++ p)
 rw [wrap64 (by omega) (by omega), Jg1 _ _ (by decide) (by decide) (by simp [Jp]; omega)]
 rfl
end Go.Am
end
section
namespace Go.Am
set_option maxRecDepth 16000
set_option linter.unusedSimpArgs false
set_option linter.unusedVariables false
def J64 (x : T_api_Image) : List UInt8 := [80, 77, 73, 77] ++ Jj x.ID 4 ++ Jj x.Pages 2 ++ Jj (x.Copies.length : Int) 2
def J4u (c : T_api_Copy) : List UInt8 := Jj c.Page 2 ++ c.Data
def J1e (l : List T_api_Copy) : List UInt8 := (l.map fun c => J03 (J4u c)).flatten
def Jcb (x : T_api_Image) : List UInt8 := J03 (J64 x) ++ J1e x.Copies
theorem J2m (x : T_api_Image) : (J64 x).length = 12 := by simp [J64, Jp]
theorem J8r {c : T_api_Copy} (h : c.Data.length = 256) : (J4u c).length = 258 := by simp [J4u, Jp, h]
theorem J2y.data {x : T_api_Image} (h : J2y x) : ∀ c ∈ x.Copies, c.Data.length = 256 := fun c hc => (JcO (J7o (h.copies c hc)).2.2.2.1).2.2
theorem Jh8 : ∀ {l : List T_api_Copy}, (∀ c ∈ l, c.Data.length = 256) → (J1e l).length = 266 * l.length
 | [], _ => rfl
 | c :: l, h => by
  have := Jh8 (l := l) fun c hc => h c (by simp [hc])
  unfold J1e at this ⊢
  rw [List.map_cons, List.flatten_cons, List.length_append, this, J2t, J8r (h c (by simp))]
  simp; omega
theorem Jn1 {x : T_api_Image} (h : J2y x) : (Jcb x).length = 20 + 266 * x.Copies.length := by
 unfold Jcb
 rw [List.length_append, J2t, J2m, Jh8 h.data]
theorem Jkq : ∀ (l : List T_api_Copy) (s : List UInt8), (∀ c ∈ l, c.Data.length = 256) → s.length + 300 * l.length ≤ 1000000 → Jcl l s = some (s ++ J1e l)
 | [], s, _, _ => by simp [Jcl, J1e]
 | c :: l, s, h, hs => by
  have hd := h c (by simp)
  simp only [List.length_cons] at hs
  unfold Jcl
  have e1 : J0e [] c.Page 2 = some (Jj c.Page 2) := by
   have := Jg1 [] c.Page (k := 2) (by decide) (by decide) (by simp)
   simpa using this
  rw [e1, Option.bind_some, J9N (by simp [Jp]; omega), Option.bind_some, show Jj c.Page 2 ++ c.Data = J4u c from rfl, JiJ (by rw [J8r hd]; omega), Option.bind_some]
  rw [if_pos (by rw [J2t, J8r hd]; omega), Jkq l _ (fun c hc => h c (by simp [hc])) (by rw [List.length_append, J2t, J8r hd]; omega)]
  simp [J1e]
theorem JrT (put : List UInt8 → Int → Int → Option (List UInt8)) (h : ∀ (l : List UInt8) (n : Int) (k : Nat), 1 ≤ k → k ≤ 8 → l.length ≤ 1000 → put l n (k : Int) = some (l ++ Jj n k)) (x : T_api_Image) {ρ : Type} (f : List UInt8 → Option ρ) :
  (Option.bind (put [80, 77, 73, 77] x.ID 4) fun h1 => Option.bind (put h1 x.Pages 2) fun h2 => Option.bind (put h2 ((x.Copies.length : Nat) : Int) 2) fun h3 => f h3) = f (J64 x) := by
 rw [show (4 : Int) = ((4 : Nat) : Int) from rfl, show (2 : Int) = ((2 : Nat) : Int) from rfl, h _ _ 4 (by decide) (by decide) (by simp), Option.bind_some, h _ _ 2 (by decide) (by decide) (by simp [Jp]), Option.bind_some, h _ _ 2 (by decide) (by decide) (by simp [Jp]), Option.bind_some]
 rfl
theorem JbQ {x : T_api_Image} (hl : x.Copies.length ≤ 1000) : J1O x = some (if J8T x then (Jcb x, 0) else ([], 43)) := by
 unfold J1O
 rw [J3N x (by omega), Option.bind_some]
 by_cases hx : J2y x
 ·rw [J4I.2 hx, if_pos rfl, if_pos rfl]
  rw [JrT J0e (fun l n k h1 h8 h => Jg1 l n h1 h8 (by omega)) x, JiJ (by rw [J2m]; omega), Option.bind_some, if_pos (by rw [J2t, J2m]; omega),
   Jkq _ _ hx.data (by rw [J2t, J2m]; omega), Option.bind_some]
  rfl
 ·have : J8T x = false := by
   cases h : J8T x with
   | false => rfl
   | true => exact absurd (J4I.1 h) hx
  rw [this]
  rfl
noncomputable def J8x (p : List UInt8) : T_api_Copy := ⟨((leV (p.take 2) : Nat) : Int), (idn (p.drop 2) ((leV (p.take 2) : Nat) : Int)).1.LSN, p.drop 2⟩
def JcF : T_api_Image := ⟨0, 0, []⟩
noncomputable def Jb6 (s : List UInt8) (id pages : Int) : Nat → Nat → List T_api_Copy → T_api_Image × Int
 | 0, at_, out => if at_ < s.length then (JcF, 4) else if J8T ⟨id, pages, out⟩ then (⟨id, pages, out⟩, 0) else (JcF, 43)
 | m + 1, at_, out => if (unf s at_).2.2 != 0 then (JcF, (unf s at_).2.2) else if (unf s at_).1.length = 258 then Jb6 s id pages m (unf s at_).2.1.toNat (out ++ [J8x (unf s at_).1]) else (JcF, 4)
theorem Jnr {s : List UInt8} {at_ : Nat} (h : (unf s at_).2.2 = 0) : ∃ k : Nat, (unf s at_).2.1 = (k : Int) ∧ k = at_ + (unf s at_).1.length + 8 ∧ k ≤ s.length := by
 unfold unf at h ⊢
 split at h
 ·rename_i h1
  rw [if_pos h1]
  split at h
  ·rename_i h2
   rw [if_pos h2]
   split at h
   ·rename_i h3
    rw [if_pos h3]
    split at h
    ·rename_i h4
     rw [if_pos h4]
     refine ⟨_, rfl, ?_, by omega⟩
     have : (part s (at_ + 4) (leV (part s at_ 4))).length = leV (part s at_ 4) := by unfold part; rw [List.length_take, List.length_drop]; unfold part at h3; omega
     dsimp only
     rw [this]
    ·cases h
   ·cases h
  ·cases h
 ·cases h
theorem JpF {p : List UInt8} (h : p.length = 258) : J3v p = some (J8x p) := by
 unfold J3v
 have e1 : J1i p (some 2) none = some (p.drop 2) := Jc0 p (a := 2) (by omega)
 have e2 : JM p 0 2 = some (((leV (p.take 2) : Nat) : Int), 0) := by
  have := Jc3 p (by omega) (at_ := 0) (k := 2) (by decide) (by decide) (by decide)
  rw [if_pos (by omega)] at this
  simpa using this
 rw [e1, Option.bind_some, e2, Option.bind_some, Ja2]
 rfl
theorem JnO (s : List UInt8) (hs : s.length ≤ 100000) (id pages : Int) (n : Nat) (hn : n ≤ 64) (l0 : List T_api_Copy) (a b : Int) : ∀ (m j at_ : Nat) (out : List T_api_Copy), j + m = n → at_ ≤ s.length → out.length = j →
  Jv (fun q : Int × Int × List T_api_Copy => J25 s (n : Int) l0 a b id pages q.1 q.2.1 q.2.2) ((at_ : Int), (j : Int), out) = some (Jb6 s id pages m at_ out) ∧
  Jv (fun q : Int × Int × List T_api_Copy => J4R s (n : Int) l0 a b id pages q.1 q.2.1 q.2.2) ((at_ : Int), (j : Int), out) = some (Jb6 s id pages m at_ out) := by
 intro m
 induction m with
 | zero =>
  intro j at_ out hj ha ho
  obtain rfl : j = n := by omega
  unfold Jb6
  constructor
  ·refine J0N ?_
   dsimp only
   unfold J25
   rw [if_neg (by simp)]
   unfold J7q
   by_cases h : at_ < s.length
   ·rw [if_pos (by simp; omega), if_pos h]; rfl
   ·rw [if_neg (by simp; omega), if_neg h, J3N _ (by dsimp only; omega), Option.bind_some]
    cases J8T ⟨id, pages, out⟩ <;> rfl
  ·refine J0N ?_
   dsimp only
   unfold J4R
   rw [if_neg (by simp)]
   unfold Jcf
   by_cases h : at_ < s.length
   ·rw [if_pos (by simp; omega), if_pos h]; rfl
   ·rw [if_neg (by simp; omega), if_neg h, J90 _ (by dsimp only; omega), Option.bind_some]
    cases J8T ⟨id, pages, out⟩ <;> rfl
 | succ m ih =>
  intro j at_ out hj ha ho
  unfold Jb6
  have e3 : IntKind.wrap .i64 ((j : Int) + 1) = ((j + 1 : Nat) : Int) := by rw [wrap64 (by omega) (by omega)]; omega
  by_cases h0 : (unf s at_).2.2 = 0
  ·rw [if_neg (by simp [h0])]
   by_cases hl : (unf s at_).1.length = 258
   ·rw [if_pos hl]
    obtain ⟨k, hk, _, hks⟩ := Jnr h0
    have := ih (j + 1) k (out ++ [J8x (unf s at_).1]) (by omega) hks (by simp [ho])
    rw [hk, Int.toNat_natCast]
    have happ : JaB 32 out [J8x (unf s at_).1] = some (out ++ [J8x (unf s at_).1]) := JaI (by omega)
    constructor
    ·refine (J2v (s' := ((k : Int), ((j + 1 : Nat) : Int), out ++ [J8x (unf s at_).1])) ?_).trans this.1
     dsimp only
     unfold J25
     rw [if_pos (by simp; omega), J9R s hs ha, Option.bind_some, if_neg (by simp [h0]), if_neg (by simp [hl]), JpF hl, Option.bind_some, happ, Option.bind_some, e3, hk]
    ·refine (J2v (s' := ((k : Int), ((j + 1 : Nat) : Int), out ++ [J8x (unf s at_).1])) ?_).trans this.2
     dsimp only
     unfold J4R
     have e1 : J1i (unf s at_).1 (some 2) none = some ((unf s at_).1.drop 2) := Jc0 _ (a := 2) (by omega)
     have e2 : J3I (unf s at_).1 0 2 = some ((leV ((unf s at_).1.take 2) : Nat) : Int) := by
      have := JcB (unf s at_).1 (by omega) (at_ := 0) (k := 2) (by decide) (by decide) (by decide)
      rw [if_pos (by omega)] at this
      unfold J3I
      rw [show ((0 : Nat) : Int) = 0 from rfl, show ((2 : Nat) : Int) = 2 from rfl] at this
      rw [this]
      simp
     rw [if_pos (by simp; omega), J9k s hs ha, Option.bind_some, if_neg (by simp [h0]), if_neg (by simp [hl]), e2, Option.bind_some, e1, Option.bind_some, JdH, Option.bind_some, show (⟨((leV ((unf s at_).1.take 2) : Nat) : Int), (idn ((unf s at_).1.drop 2) ((leV ((unf s at_).1.take 2) : Nat) : Int)).1.LSN, (unf s at_).1.drop 2⟩ : T_api_Copy) = J8x (unf s at_).1 from rfl, happ, Option.bind_some, e3, hk]
   ·rw [if_neg hl]
    constructor
    ·refine J0N ?_
     dsimp only
     unfold J25
     rw [if_pos (by simp; omega), J9R s hs ha, Option.bind_some, if_neg (by simp [h0]), if_pos (by simp; omega)]
     rfl
    ·refine J0N ?_
     dsimp only
     unfold J4R
     rw [if_pos (by simp; omega), J9k s hs ha, Option.bind_some, if_neg (by simp [h0]), if_pos (by simp; omega)]
     rfl
  ·rw [if_pos (by simpa using h0)]
   constructor
   ·refine J0N ?_
    dsimp only
    unfold J25
    rw [if_pos (by simp; omega), J9R s hs ha, Option.bind_some, if_pos (by simpa using h0)]
    rfl
   ·refine J0N ?_
    dsimp only
    unfold J4R
    rw [if_pos (by simp; omega), J9k s hs ha, Option.bind_some, if_pos (by simpa using h0)]
    rfl
noncomputable def Jid (s : List UInt8) : T_api_Image × Int :=
 if (unf s 0).2.2 != 0 then (JcF, (unf s 0).2.2) else if (unf s 0).1.length = 12 then
  if (unf s 0).1.take 4 = [80, 77, 73, 77] then
   if leV (part (unf s 0).1 10 2) ≤ 64 then Jb6 s ((leV (part (unf s 0).1 4 4) : Nat) : Int) ((leV (part (unf s 0).1 8 2) : Nat) : Int) (leV (part (unf s 0).1 10 2)) (unf s 0).2.1.toNat [] else (JcF, 4)
  else (JcF, 4)
 else (JcF, 4)
theorem Jfc {s : List UInt8} (hs : s.length ≤ 100000) : J3F s = some (Jid s) ∧ Jdq s = some (Jid s) := by
 unfold J3F Jdq Jid
 have hu : J2u s 0 = some (unf s 0) := J9R s hs (Nat.zero_le _)
 have hr : J6z s 0 = some (unf s 0) := J9k s hs (Nat.zero_le _)
 rw [hu, hr]
 simp only [Option.bind_some]
 by_cases h0 : (unf s 0).2.2 = 0
 ·obtain ⟨k, hk, _, hks⟩ := Jnr h0
  have c0 : ((unf s 0).2.2 != 0) = false := by simp [h0]
  simp only [c0, Bool.false_eq_true, if_false]
  by_cases hl : (unf s 0).1.length = 12
  ·have c1 : ((((unf s 0).1.length : Nat) : Int) != 12) = false := by simp [hl]
   simp only [c1, Bool.false_eq_true, if_false, hl, if_true]
   have e1 : J1i (unf s 0).1 none (some 4) = some ((unf s 0).1.take 4) := Jdx _ (b := 4) (by omega)
   have e2 : J2r (unf s 0).1 [80, 77, 73, 77] = some ((unf s 0).1.take 4 == [80, 77, 73, 77]) := by
    unfold J2r J0x
    rw [if_pos (by simp; omega)]
    have : J1i (unf s 0).1 none (some (([80, 77, 73, 77] : List UInt8).length : Int)) = some ((unf s 0).1.take 4) := e1
    rw [this]
    rfl
   rw [e1, e2]
   simp only [Option.bind_some]
   by_cases hm : (unf s 0).1.take 4 = [80, 77, 73, 77]
   ·have c2 : ((unf s 0).1.take 4 == [80, 77, 73, 77]) = true := by simp [hm]
    simp only [c2, if_true, hm]
    have g : ∀ (a k : Nat), 1 ≤ k → k ≤ 4 → a + k ≤ 12 → JM (unf s 0).1 a k = some (((leV (part (unf s 0).1 a k) : Nat) : Int), 0) ∧ J3I (unf s 0).1 a k = some ((leV (part (unf s 0).1 a k) : Nat) : Int) := by
     intro a k h1 h4 h12
     have g1 := Jc3 (unf s 0).1 (by omega) (at_ := a) h1 h4 (by omega)
     have g2 := JcB (unf s 0).1 (by omega) (at_ := a) h1 h4 (by omega)
     rw [if_pos (by omega)] at g1 g2
     refine ⟨g1, ?_⟩
     unfold J3I
     rw [g2]
     rfl
    have g1 := g 4 4 (by decide) (by decide) (by decide)
    have g2 := g 8 2 (by decide) (by decide) (by decide)
    have g3 := g 10 2 (by decide) (by decide) (by decide)
    rw [show ((4 : Nat) : Int) = 4 from rfl] at g1
    rw [show ((8 : Nat) : Int) = 8 from rfl, show ((2 : Nat) : Int) = 2 from rfl] at g2
    rw [show ((10 : Nat) : Int) = 10 from rfl, show ((2 : Nat) : Int) = 2 from rfl] at g3
    rw [g1.1, g1.2, g2.1, g2.2, g3.1, g3.2]
    simp only [Option.bind_some]
    generalize leV (part (unf s 0).1 10 2) = n
    by_cases hn : n ≤ 64
    ·have c3 : decide (((n : Nat) : Int) > 64) = false := by simp; omega
     simp only [c3, Bool.false_eq_true, if_false, hn, if_true]
     rw [hk, Int.toNat_natCast]
     exact JnO s hs _ _ n hn [] 0 0 n 0 k [] (by omega) hks rfl
    ·have c3 : decide (((n : Nat) : Int) > 64) = true := by simp; omega
     simp only [c3, if_true, hn, if_false]
     exact ⟨rfl, rfl⟩
   ·have c2 : ((unf s 0).1.take 4 == [80, 77, 73, 77]) = false := by simp [hm]
    simp only [c2, Bool.false_eq_true, if_false, hm]
    exact ⟨rfl, rfl⟩
  ·have c1 : ((((unf s 0).1.length : Nat) : Int) != 12) = true := by simp; omega
   simp only [c1, if_true, hl, if_false]
   exact ⟨rfl, rfl⟩
 ·have c0 : ((unf s 0).2.2 != 0) = true := by simpa using h0
  simp only [c0, if_true]
  exact ⟨rfl, rfl⟩
end Go.Am
end
section
namespace Go.Am
set_option maxRecDepth 16000
set_option linter.unusedSimpArgs false
set_option linter.unusedVariables false
theorem JrG {σ ρ : Type} {f : σ → Option (σ ⊕ ρ)} (I : σ → Prop) (m : σ → Nat) (Q : ρ → Prop)
  (h : ∀ s, I s → Tot (f s) fun r => (∃ s', r = .inl s' ∧ I s' ∧ m s' < m s) ∨ ∃ x, r = .inr x ∧ Q x) {s : σ} (hs : I s) : Tot (Jv f s) Q := by
 obtain ⟨r, h1, h2⟩ := J0R (f := f) I m Q (fun s hs => by
  obtain ⟨r, e, h3⟩ := h s hs
  rcases h3 with ⟨s', rfl, h4, h5⟩ | ⟨x, rfl, h4⟩
  ·exact .inl ⟨s', e, h4, h5⟩
  ·exact .inr ⟨x, e, h4⟩) s hs
 exact ⟨r, h1, h2⟩
theorem Joc {p : T_api_Page} (hp : J5Q p) : J2O p = some (Jg5 p, 0) := by rw [JdM, JkT hp]
section
variable {b : T_pagemenddraw_Codes} (hb : J1g b)
include hb
theorem JvM {id : Int} (h0 : 0 ≤ id) (h1 : id < 64) : Drw (J2Z b id) fun p => J5Q p ∧ p.ID = id := by
 obtain ⟨p, b', e, h2, h3, h4⟩ := JqM hb h0 h1
 exact ⟨_, e, h2, h3, h4⟩
theorem JtB : Drw (J2E b) fun t => t.length = 256 := by
 obtain ⟨p, b', e, h2, h3⟩ := Jsz hb
 exact ⟨_, e, h2, h3⟩
theorem JuO {id : Int} (h0 : 0 ≤ id) (h1 : id < 64) : Drw (J7e b id) fun t => t.length = 256 := by
 unfold J7e
 refine .bind (Jiv hb (by omega) (by omega)) fun r1 ⟨h2, q2⟩ => .both ?_ (.both ?_ ?_)
 ·exact .eq Jks (.some ⟨h2, Jtt⟩)
 ·exact .bind (JtB h2) fun r3 ⟨h3, q3⟩ => .some ⟨h3, q3⟩
 ·refine .bind (JvM h2 h0 h1) fun r3 ⟨h3, q3, q4⟩ => .eq (Joc q3) (.some ⟨h3, JqB q3⟩)
theorem JuA : Drw (J7l b) fun x => J2y x ∧ x.Pages ≤ 6 := by
 unfold J7l
 refine .bind (Jiv hb (by omega) (by omega)) fun r1 ⟨h1, q1⟩ => .bind (Jiv h1 (by omega) (by omega)) fun r2 ⟨h2, q2⟩ => ?_
 unfold JaD
 refine JrG (fun s : Int × T_pagemenddraw_Codes × T_api_Image => 0 ≤ s.1 ∧ s.1 ≤ 6 ∧ J1g s.2.1 ∧ J2y s.2.2 ∧ s.2.2.Pages ≤ 6) (fun s => (6 - s.1).toNat) _ ?_ ?_
 ·rintro ⟨k, b', x⟩ ⟨k0, k6, hb', hx, hp⟩
  dsimp only at *
  unfold J73
  refine .ite (fun hlt => ?_) (fun hge => ?_)
  ·have hlt : k < x.Pages := by simpa using hlt
   have e3 : IntKind.wrap .i64 (k + 1) = k + 1 := wrap64 (by omega) (by omega)
   unfold J5N
   simp only [e3]
   refine .bind (Jiv hb' (by omega) (by omega)) fun r3 ⟨h3, q3⟩ => .both ?_ ?_
   ·exact .some (.inl ⟨_, rfl, ⟨by dsimp only; omega, by dsimp only; omega, h3, hx, hp⟩, by dsimp only; omega⟩)
   ·refine .bind (JuO h3 k0 (by omega)) fun r4 ⟨h4, q4⟩ => ?_
    have hl : x.Copies.length ≤ 64 := by have := hx.len; omega
    obtain ⟨r, e1, e2, ok, _⟩ := JtT (x := x) (by omega) k r4.1
    refine .eq e2 (.ite (fun h0 => ?_) (fun _ => ?_))
    ·obtain ⟨_, y1, y2⟩ := ok (by simpa using h0)
     exact .some (.inl ⟨_, rfl, ⟨by dsimp only; omega, by dsimp only; omega, h4, y1, by dsimp only; omega⟩, by dsimp only; omega⟩)
    ·exact .some (.inl ⟨_, rfl, ⟨by dsimp only; omega, by dsimp only; omega, h4, hx, hp⟩, by dsimp only; omega⟩)
  ·exact .some (.inr ⟨_, rfl, hb', hx, hp⟩)
 ·have e1 : IntKind.wrap .i64 (1 + r1.1) = 1 + r1.1 := wrap64 (by omega) (by omega)
  have e2 : IntKind.wrap .i64 (1 + r2.1) = 1 + r2.1 := wrap64 (by omega) (by omega)
  rw [e1, e2]
  refine ⟨by dsimp only; omega, by dsimp only; omega, h2, ⟨by dsimp only; omega, by dsimp only; omega, by dsimp only; omega, by dsimp only; omega, fun c hc => (List.not_mem_nil hc).elim, fun k hk => (Nat.not_lt_zero _ hk).elim⟩, by dsimp only; omega⟩
end
theorem JhK : J2y ⟨1, 1, []⟩ := ⟨by decide, by decide, by decide, by decide, fun c hc => (List.not_mem_nil hc).elim, fun k hk => (Nat.not_lt_zero _ hk).elim⟩
theorem JuG : J5c = some true := by
 unfold J5c
 rw [JbQ (by simp), J4I.2 JhK, if_pos rfl, Option.bind_some]
 have hl := Jn1 JhK
 rw [if_pos (by rfl), if_pos (by dsimp only; rw [hl]; rfl), J3N _ (by simp), J4I.2 JhK]
 rfl
end Go.Am
end
section
namespace Go.Am
set_option maxRecDepth 16000
set_option linter.unusedSimpArgs false
set_option linter.unusedVariables false
theorem Jsh {a b c : List UInt8} : part (a ++ (b ++ c)) a.length b.length = b := by
 unfold part; rw [List.drop_left, List.take_left]
theorem J83 {a b c : List UInt8} {n m : Nat} (hn : n = a.length) (hm : m = b.length) : part (a ++ (b ++ c)) n m = b := by subst hn hm; exact Jsh
theorem JoJ {a b : List UInt8} (h : a.length = b.length) (h7 : a.length ≤ 7) (e : leV a = leV b) : a = b := by
 rw [← Jeg (l := a) h7, ← Jeg (l := b) (by omega), e, h]
theorem Jcw (pre post p : List UInt8) (hp : p.length ≤ 8392) : unf (pre ++ (J03 p ++ post)) pre.length = (p, ((pre.length + p.length + 8 : Nat) : Int), 0) := by
 have hl : (pre ++ (J03 p ++ post)).length = pre.length + (p.length + 8) + post.length := by rw [List.length_append, List.length_append, J2t]; omega
 have hc := JaU (Jj (p.length : Int) 4 ++ p)
 have e4 : part (pre ++ (J03 p ++ post)) pre.length 4 = Jj (p.length : Int) 4 := by
  have : pre ++ (J03 p ++ post) = pre ++ (Jj (p.length : Int) 4 ++ (p ++ (Jj ((crc (Jj (p.length : Int) 4 ++ p) : Nat) : Int) 4 ++ post))) := by simp [J03]
  rw [this]; exact J83 rfl (by rw [Jp])
 have ev : leV (part (pre ++ (J03 p ++ post)) pre.length 4) = p.length := by rw [e4]; exact J6Q (by decide) (by omega)
 have e5 : part (pre ++ (J03 p ++ post)) pre.length (4 + p.length) = Jj (p.length : Int) 4 ++ p := by
  have : pre ++ (J03 p ++ post) = pre ++ ((Jj (p.length : Int) 4 ++ p) ++ (Jj ((crc (Jj (p.length : Int) 4 ++ p) : Nat) : Int) 4 ++ post)) := by simp [J03]
  rw [this]; exact J83 rfl (by rw [List.length_append, Jp])
 have e6 : part (pre ++ (J03 p ++ post)) (pre.length + 4 + p.length) 4 = Jj ((crc (Jj (p.length : Int) 4 ++ p) : Nat) : Int) 4 := by
  have : pre ++ (J03 p ++ post) = (pre ++ (Jj (p.length : Int) 4 ++ p)) ++ (Jj ((crc (Jj (p.length : Int) 4 ++ p) : Nat) : Int) 4 ++ post) := by simp [J03]
  rw [this]; exact J83 (by rw [List.length_append, List.length_append, Jp]; omega) (by rw [Jp])
 have e7 : part (pre ++ (J03 p ++ post)) (pre.length + 4) p.length = p := by
  have : pre ++ (J03 p ++ post) = (pre ++ Jj (p.length : Int) 4) ++ (p ++ (Jj ((crc (Jj (p.length : Int) 4 ++ p) : Nat) : Int) 4 ++ post)) := by simp [J03]
  rw [this]; exact J83 (by rw [List.length_append, Jp]) rfl
 unfold unf
 rw [ev, e5, e6, e7, if_pos (by omega), if_pos hp, if_pos (by omega), if_pos (J6Q (by decide) (by omega))]
theorem JcT {l : List UInt8} {k : Nat} {v : UInt8} (hk : k < l.length) (hv : l[k]? ≠ some v) : l.set k v ≠ l := by
 refine JvQ hk fun e => hv ?_
 rw [List.getElem?_eq_getElem hk, e]
theorem JiW (pre post p : List UInt8) (hp : p.length ≤ 8392) {k : Nat} {v : UInt8} (hk : k < p.length + 8) (hv : (J03 p)[k]? ≠ some v)
  (h0 : (unf (pre ++ ((J03 p).set k v ++ post)) pre.length).2.2 = 0) : (unf (pre ++ ((J03 p).set k v ++ post)) pre.length).1.length ≠ p.length := by
 have hc := JaU (Jj (p.length : Int) 4 ++ p)
 have hn4 : (Jj (p.length : Int) 4).length = 4 := Jp _ _
 have hc4 : (Jj ((crc (Jj (p.length : Int) 4 ++ p) : Nat) : Int) 4).length = 4 := Jp _ _
 have hbl : (Jj (p.length : Int) 4 ++ p).length = 4 + p.length := by rw [List.length_append, hn4]
 have hF : J03 p = Jj (p.length : Int) 4 ++ (p ++ Jj ((crc (Jj (p.length : Int) 4 ++ p) : Nat) : Int) 4) := by unfold J03; rw [List.append_assoc]
 by_cases h4 : k < 4
 ·
  have hset : (J03 p).set k v = (Jj (p.length : Int) 4).set k v ++ (p ++ Jj ((crc (Jj (p.length : Int) 4 ++ p) : Nat) : Int) 4) := by
   rw [hF, List.set_append_left _ _ (by omega)]
  have hne : (Jj (p.length : Int) 4).set k v ≠ Jj (p.length : Int) 4 := by
   refine JcT (by omega) ?_
   rw [hF, List.getElem?_append_left (by omega)] at hv
   exact hv
  rw [hset] at h0 ⊢
  generalize hN : (Jj (p.length : Int) 4).set k v = N at hne h0 ⊢
  have hNl : N.length = 4 := by rw [← hN, List.length_set, hn4]
  have hL : leV N ≠ p.length := by
   intro e
   apply hne
   refine JoJ (by omega) (by omega) ?_
   rw [e, J6Q (by decide) (by omega)]
  have e4 : part (pre ++ (N ++ (p ++ Jj ((crc (Jj (p.length : Int) 4 ++ p) : Nat) : Int) 4) ++ post)) pre.length 4 = N := by
   rw [List.append_assoc]; exact J83 rfl hNl.symm
  generalize pre ++ (N ++ (p ++ Jj ((crc (Jj (p.length : Int) 4 ++ p) : Nat) : Int) 4) ++ post) = s at e4 h0 ⊢
  intro e
  apply hL
  unfold unf at e h0
  rw [e4] at e h0
  split at h0
  ·rename_i c1
   rw [if_pos c1] at e
   split at h0
   ·rename_i c2
    rw [if_pos c2] at e
    split at h0
    ·rename_i c3
     rw [if_pos c3] at e
     split at h0
     ·rename_i c5
      rw [if_pos c5] at e
      unfold part at e
      dsimp only at e
      rw [List.length_take, List.length_drop] at e
      omega
     ·cases h0
    ·cases h0
   ·cases h0
  ·cases h0
 ·
  exfalso
  have key : ∀ D C : List UInt8, D.length = 4 + p.length → C.length = 4 → D.take 4 = Jj (p.length : Int) 4 → leV C ≠ crc D → (J03 p).set k v = D ++ C → False := by
   intro D C hD hC hT hne hset
   rw [hset] at h0
   have es : pre ++ (D ++ C ++ post) = pre ++ (D ++ (C ++ post)) := by rw [List.append_assoc]
   rw [es] at h0
   have e4 : part (pre ++ (D ++ (C ++ post))) pre.length 4 = Jj (p.length : Int) 4 := by
    unfold part
    rw [List.drop_left, List.take_append_of_le_length (by omega), hT]
   have ev : leV (part (pre ++ (D ++ (C ++ post))) pre.length 4) = p.length := by rw [e4]; exact J6Q (by decide) (by omega)
   have e5 : part (pre ++ (D ++ (C ++ post))) pre.length (4 + p.length) = D := J83 rfl hD.symm
   have e6 : part (pre ++ (D ++ (C ++ post))) (pre.length + 4 + p.length) 4 = C := by
    rw [← List.append_assoc]; exact J83 (by rw [List.length_append]; omega) hC.symm
   have hlen : (pre ++ (D ++ (C ++ post))).length = pre.length + (4 + p.length) + 4 + post.length := by simp only [List.length_append]; omega
   unfold unf at h0
   rw [ev, e5, e6, if_pos (by omega), if_pos hp, if_pos (by omega), if_neg hne] at h0
   cases h0
  by_cases h5 : k < 4 + p.length
  ·refine key ((Jj (p.length : Int) 4 ++ p).set k v) (Jj ((crc (Jj (p.length : Int) 4 ++ p) : Nat) : Int) 4) (by rw [List.length_set, hbl]) hc4 ?_ ?_ ?_
   ·rw [List.set_append_right _ _ (by omega), List.take_append_of_le_length (by omega), List.take_of_length_le (by omega)]
   ·rw [J6Q (by decide) (by omega)]
    refine Ne.symm (Ju2 (by omega) fun e => hv ?_)
    unfold J03
    rw [List.getElem?_append_left (by omega), List.getElem?_eq_getElem (by omega), e]
   ·unfold J03
    rw [List.set_append_left _ _ (by omega)]
  ·refine key (Jj (p.length : Int) 4 ++ p) ((Jj ((crc (Jj (p.length : Int) 4 ++ p) : Nat) : Int) 4).set (k - (4 + p.length)) v) hbl (by rw [List.length_set, hc4]) (by rw [List.take_append_of_le_length (by omega), List.take_of_length_le (by omega)]) ?_ ?_
   ·intro e
    have hne : (Jj ((crc (Jj (p.length : Int) 4 ++ p) : Nat) : Int) 4).set (k - (4 + p.length)) v ≠ Jj ((crc (Jj (p.length : Int) 4 ++ p) : Nat) : Int) 4 := by
     refine JcT (by omega) fun e2 => hv ?_
     unfold J03
     rw [List.getElem?_append_right (by omega), hbl]
     exact e2
    apply hne
    refine JoJ (by rw [List.length_set]) (by rw [List.length_set]; omega) ?_
    rw [e, J6Q (by decide) (by omega)]
   ·unfold J03
    rw [List.set_append_right _ _ (by omega), hbl]
theorem Jo7 {n : Int} {c : T_api_Copy} (h : J6X n c = true) : J8x (J4u c) = c := by
 obtain ⟨h0, h64, _, _, hlsn⟩ := J7o h
 obtain ⟨a, b, d⟩ := c
 dsimp only at h0 h64 hlsn
 unfold J8x J4u
 have e1 : (Jj a 2 ++ d).take 2 = Jj a 2 := List.take_left' (Jp _ _)
 have e2 : (Jj a 2 ++ d).drop 2 = d := List.drop_left' (Jp _ _)
 obtain ⟨k, rfl⟩ : ∃ k : Nat, a = (k : Int) := ⟨a.toNat, by omega⟩
 dsimp only
 rw [e1, e2, J6Q (by decide) (by omega), hlsn]
theorem Jh1 (c : T_api_Copy) (l : List T_api_Copy) : J1e (c :: l) = J03 (J4u c) ++ J1e l := by simp [J1e]
theorem JkF (id pages : Int) : ∀ (l : List T_api_Copy) (pre : List UInt8) (out : List T_api_Copy), (∀ c ∈ l, J6X pages c = true) →
  Jb6 (pre ++ J1e l) id pages l.length pre.length out = Jb6 (pre ++ J1e l) id pages 0 (pre ++ J1e l).length (out ++ l)
 | [], pre, out, _ => by simp [J1e]
 | c :: l, pre, out, h => by
  have hc := h c (by simp)
  have hd := (JcO (J7o hc).2.2.2.1).2.2
  have hu := Jcw pre (J1e l) (J4u c) (by rw [J8r hd]; omega)
  rw [Jh1]
  rw [List.length_cons]
  conv => lhs; unfold Jb6
  rw [hu]
  dsimp only
  rw [if_neg (by decide), if_pos (J8r hd), Jo7 hc, Int.toNat_natCast]
  have := JkF id pages l (pre ++ J03 (J4u c)) (out ++ [c]) fun c hc => h c (by simp [hc])
  rw [List.append_assoc, List.length_append, J2t] at this
  rw [show pre.length + (J4u c).length + 8 = pre.length + ((J4u c).length + 8) by omega, this]
  simp
theorem JgZ (id pages : Int) : ∀ (l : List T_api_Copy) (pre : List UInt8) (out : List T_api_Copy) (k : Nat) (v : UInt8), (∀ c ∈ l, J6X pages c = true) → k < (J1e l).length → (J1e l)[k]? ≠ some v →
  (Jb6 (pre ++ (J1e l).set k v) id pages l.length pre.length out).2 ≠ 0
 | [], pre, out, k, v, _, hk, _ => by simp [J1e] at hk
 | c :: l, pre, out, k, v, h, hk, hv => by
  have hc := h c (by simp)
  have hd := (JcO (J7o hc).2.2.2.1).2.2
  have hpl := J8r hd
  have hfl := J2t (J4u c)
  rw [Jh1] at hk hv ⊢
  rw [List.length_append] at hk
  rw [List.length_cons]
  unfold Jb6
  by_cases h1 : k < (J03 (J4u c)).length
  ·rw [List.set_append_left _ _ h1]
   rw [List.getElem?_append_left h1] at hv
   by_cases h0 : (unf (pre ++ ((J03 (J4u c)).set k v ++ J1e l)) pre.length).2.2 = 0
   ·have := JiW pre (J1e l) (J4u c) (by omega) (by omega) hv h0
    rw [if_neg (by simp [h0]), if_neg (by omega)]
    decide
   ·rw [if_pos (by simpa using h0)]
    exact h0
  ·rw [List.set_append_right _ _ (by omega)]
   rw [List.getElem?_append_right (by omega)] at hv
   have hu := Jcw pre ((J1e l).set (k - (J03 (J4u c)).length) v) (J4u c) (by omega)
   rw [hu]
   dsimp only
   rw [if_neg (by decide), if_pos hpl, Int.toNat_natCast]
   have := JgZ id pages l (pre ++ J03 (J4u c)) (out ++ [J8x (J4u c)]) (k - (J03 (J4u c)).length) v (fun c hc => h c (by simp [hc])) (by omega) hv
   rw [List.append_assoc, List.length_append, J2t] at this
   rw [J2t, show pre.length + (J4u c).length + 8 = pre.length + ((J4u c).length + 8) by omega]
   exact this
theorem JiI {x : T_api_Image} (hx : J2y x) : (J64 x).take 4 = [80, 77, 73, 77] ∧ ((leV (part (J64 x) 4 4) : Nat) : Int) = x.ID ∧ ((leV (part (J64 x) 8 2) : Nat) : Int) = x.Pages ∧ leV (part (J64 x) 10 2) = x.Copies.length := by
 have h1 := hx.id1; have h2 := hx.id2; have h3 := hx.p1; have h4 := hx.p2; have h5 := hx.len
 obtain ⟨a, n, l⟩ := x
 dsimp only at *
 obtain ⟨i, rfl⟩ : ∃ i : Nat, a = (i : Int) := ⟨a.toNat, by omega⟩
 obtain ⟨m, rfl⟩ : ∃ m : Nat, n = (m : Int) := ⟨n.toNat, by omega⟩
 have e : J64 ⟨(i : Int), (m : Int), l⟩ = [80, 77, 73, 77] ++ (Jj (i : Int) 4 ++ (Jj (m : Int) 2 ++ Jj (l.length : Int) 2)) := by simp [J64]
 have hM : ([80, 77, 73, 77] : List UInt8).length = 4 := rfl
 rw [e]
 generalize hMM : ([80, 77, 73, 77] : List UInt8) = M at hM
 have hA : (Jj (i : Int) 4).length = 4 := Jp _ _
 have hB : (Jj (m : Int) 2).length = 2 := Jp _ _
 have hC : (Jj (l.length : Int) 2).length = 2 := Jp _ _
 have p1 : part (M ++ (Jj (i : Int) 4 ++ (Jj (m : Int) 2 ++ Jj (l.length : Int) 2))) 4 4 = Jj (i : Int) 4 := J83 hM.symm hA.symm
 have p2 : part (M ++ (Jj (i : Int) 4 ++ (Jj (m : Int) 2 ++ Jj (l.length : Int) 2))) 8 2 = Jj (m : Int) 2 := by
  rw [← List.append_assoc]; exact J83 (by rw [List.length_append, hM, hA]) hB.symm
 have p3 : part (M ++ (Jj (i : Int) 4 ++ (Jj (m : Int) 2 ++ Jj (l.length : Int) 2))) 10 2 = Jj (l.length : Int) 2 := by
  have e2 : M ++ (Jj (i : Int) 4 ++ (Jj (m : Int) 2 ++ Jj (l.length : Int) 2)) = (M ++ (Jj (i : Int) 4 ++ Jj (m : Int) 2)) ++ (Jj (l.length : Int) 2 ++ []) := by simp
  rw [e2]; exact J83 (by rw [List.length_append, List.length_append, hM, hA, hB]) hC.symm
 rw [p1, p2, p3, J6Q (by decide) (by omega), J6Q (by decide) (by omega), J6Q (by decide) (by omega)]
 exact ⟨List.take_left' hM, rfl, rfl, rfl⟩
theorem Jqy {x : T_api_Image} (hx : J2y x) : Jid (Jcb x) = (x, 0) := by
 obtain ⟨e1, e2, e3, e4⟩ := JiI hx
 have hl := hx.len
 have h2 := hx.p2
 have hu := Jcw [] (J1e x.Copies) (J64 x) (by rw [J2m]; omega)
 rw [List.nil_append, show J03 (J64 x) ++ J1e x.Copies = Jcb x from rfl, List.length_nil, J2m] at hu
 unfold Jid
 rw [hu]
 dsimp only
 rw [if_neg (by decide), if_pos (J2m x), if_pos e1, e2, e3, e4, if_pos (by omega)]
 have h := JkF x.ID x.Pages x.Copies (J03 (J64 x)) [] hx.copies
 rw [J2t, J2m] at h
 rw [show ((0 + 12 + 8 : Nat) : Int).toNat = 12 + 8 from rfl]
 unfold Jcb
 rw [h]
 unfold Jb6
 rw [if_neg (by omega), List.nil_append, if_pos (J4I.2 hx)]
theorem Jo6 {x : T_api_Image} (hx : J2y x) {k : Nat} {v : UInt8} (hk : k < (Jcb x).length) (hv : (Jcb x)[k]? ≠ some v) : (Jid ((Jcb x).set k v)).2 ≠ 0 := by
 obtain ⟨e1, e2, e3, e4⟩ := JiI hx
 have hl := hx.len
 have h2 := hx.p2
 have hfl : (J03 (J64 x)).length = 20 := by rw [J2t, J2m]
 unfold Jcb at hk hv ⊢
 rw [List.length_append] at hk
 unfold Jid
 by_cases h1 : k < 20
 ·rw [List.set_append_left _ _ (by omega)]
  rw [List.getElem?_append_left (by omega)] at hv
  by_cases h0 : (unf ((J03 (J64 x)).set k v ++ J1e x.Copies) 0).2.2 = 0
  ·have := JiW [] (J1e x.Copies) (J64 x) (by rw [J2m]; omega) (by rw [J2m]; omega) hv h0
   rw [J2m, List.nil_append, List.length_nil] at this
   rw [if_neg (by simp [h0]), if_neg this]
   decide
  ·rw [if_pos (by simpa using h0)]
   exact h0
 ·rw [List.set_append_right _ _ (by omega), hfl]
  rw [List.getElem?_append_right (by omega), hfl] at hv
  have hu := Jcw [] ((J1e x.Copies).set (k - 20) v) (J64 x) (by rw [J2m]; omega)
  rw [List.nil_append, List.length_nil, J2m] at hu
  rw [hu]
  dsimp only
  rw [if_neg (by decide), if_pos (J2m x), if_pos e1, e2, e3, e4, if_pos (by omega)]
  rw [show ((0 + 12 + 8 : Nat) : Int).toNat = 12 + 8 from rfl]
  have h := JgZ x.ID x.Pages x.Copies (J03 (J64 x)) [] (k - 20) v hx.copies (by omega) hv
  rw [J2t, J2m] at h
  exact h
theorem JgG {l : List Int} {at_ by_ : Int} (h : List.length l ≤ maxLen ∧ ∀ x ∈ l, 0 ≤ x ∧ x ≤ 255) (ha : 0 ≤ at_ ∧ at_ ≤ 65535) (hb : 0 ≤ by_ ∧ by_ ≤ 255) : J4c l at_ by_ = some true := by
 have key : Tot (J4c l at_ by_) fun r => r = true := by
  unfold J4c
  refine .eq JuG ?_
  rw [if_pos rfl]
  obtain ⟨b, e, hbk⟩ := Jua h (n := 400) (by omega)
  refine .eq e (.bind (JuA hbk) fun r1 ⟨_, q1, q2⟩ => ?_)
  obtain ⟨x, b1⟩ := r1
  dsimp only at q1 q2 ⊢
  have hlen := Jn1 q1
  have hcl := q1.len
  refine .eq (JbQ (by omega)) ?_
  rw [J4I.2 q1, if_pos rfl]
  dsimp only
  refine .eq (Jfc (by omega)).1 ?_
  rw [Jqy q1]
  dsimp only
  refine .eq (JbQ (by omega)) ?_
  rw [J4I.2 q1, if_pos rfl]
  dsimp only
  rw [if_neg (by decide), if_neg (by decide), if_neg (by decide), if_pos (by simp)]
  refine .eq (JpS (by omega)) ?_
  rw [if_pos (by simp)]
  refine .ite (fun _ => .some rfl) (fun hne => ?_)
  have hne : by_ ≠ 0 := by simpa using hne
  obtain ⟨a, rfl⟩ : ∃ a : Nat, at_ = (a : Int) := ⟨at_.toNat, by omega⟩
  obtain ⟨y, rfl⟩ : ∃ y : Nat, by_ = (y : Int) := ⟨by_.toNat, by omega⟩
  generalize hs : Jcb x = s at hlen
  have hk : a % s.length < s.length := Nat.mod_lt _ (by omega)
  have er : JfP (IntKind.wrap .i64 (a : Int)) ((s.length : Nat) : Int) = some ((a % s.length : Nat) : Int) := by
   unfold JfP
   rw [if_neg (by omega), wrap64 (by omega) (by omega), Int.tmod_eq_emod_of_nonneg (by omega)]
   congr 1
  generalize a % s.length = k at hk er
  have hu := UInt8.toNat_lt s[k]
  have e5 : J1i s (some (IntKind.wrap .i64 ((k : Int) + 1))) none = some (s.drop (k + 1)) := by
   rw [wrap64 (by omega) (by omega)]; exact Jc0 s (a := k + 1) (by omega)
  have e6 : toStr [J4E .u8 ((s[k].toNat : Nat) : Int) (y : Int)] = [UInt8.ofNat (s[k].toNat ^^^ y)] := by
   rw [JwH hu (by omega)]; simp [toStr]
  have hc : s[k] ≠ UInt8.ofNat (s[k].toNat ^^^ y) := by
   intro e
   have h1 := congrArg UInt8.toNat e
   have h3 : s[k].toNat ^^^ y < 2 ^ 8 := Nat.xor_lt_two_pow hu (by omega)
   rw [UInt8.toNat_ofNat', Nat.mod_eq_of_lt h3] at h1
   have h4 : s[k].toNat ^^^ 0 = s[k].toNat ^^^ y := by rw [Nat.xor_zero]; exact h1
   have := Jpf h4
   omega
  refine .eq er (.eq (Jdx s (by omega)) (.eq (J81 hk) ?_))
  rw [e6]
  refine .eq (J9N (by simp; omega)) (.eq e5 (.eq (v := s.set k (UInt8.ofNat (s[k].toNat ^^^ y))) ?_ (.eq (Jfc (by rw [List.length_set]; omega)).1 (.some ?_))))
  ·rw [J9N (by simp; omega), List.set_eq_take_append_cons_drop, if_pos hk]
   simp
  ·have hd := Jo6 (x := x) q1 (k := k) (v := UInt8.ofNat (s[k].toNat ^^^ y)) (by rw [hs]; exact hk) (by rw [hs, List.getElem?_eq_getElem hk]; exact fun e => hc (Option.some.inj e))
   rw [hs] at hd
   simpa using hd
 obtain ⟨r, e, rfl⟩ := key
 exact e
end Go.Am
end
section
namespace Go.Am
section
variable (P : Program)
def Ja6 : Nat → TypeId → Bool
 | 0, _ => false
 | n + 1, t => match P.underlying t with
  | some .bool => true
  | some (.int _) => true
  | some .string => true
  | some (.slice e) => Ja6 n e && decide (t < P.types.size ∧ 0 < P.cellsOf e)
  | some (.struct fs) => fs.toList.all (fun f => Ja6 n f.type) && decide (t < P.types.size)
  | some (.array _ e) => Ja6 n e && decide (t < P.types.size)
  | _ => false
def J9T : Nat → TypeId → List PV → Prop
 | 0, _, _ => False
 | n + 1, t, pvs => match P.underlying t with
  | some .bool => ∃ b, pvs = [.b b]
  | some (.int k) => ∃ z, pvs = [.i k z] ∧ (Lit.int k z).wf = true
  | some .string => ∃ l, pvs = [.s l] ∧ l.length ≤ maxLen
  | some (.slice e) => ∃ rows, pvs = [.sl (P.cellsOf e) rows] ∧ rows.length ≤ maxLen ∧ ∀ row ∈ rows, row.length = P.cellsOf e ∧ J9T n e row
  | some (.struct fs) => pvs.length = P.cellsOf t ∧ ∀ f ∈ fs.toList, J9T n f.type ((pvs.drop f.offset).take (P.cellsOf f.type))
  | some (.array m e) => pvs.length = P.cellsOf t ∧ ∀ i, i < m → J9T n e ((pvs.drop (i * P.cellsOf e)).take (P.cellsOf e))
  | _ => False
end
section
variable {H : Type} {enc : TypeId × Value → H} {P : Program} {w : World} {base : Nat} {sp : Nat → Bool} {held : Bool}
def Jp9 (w : World) (pvs : List PV) (cs : List Value) : Prop :=
 pvs.length = cs.length ∧ ∀ (i : Nat) p v, pvs[i]? = some p → cs[i]? = some v → JJ w (fun r _ => r < w.heap.size) p v
theorem JfE {a : Addr} {v : Value} (h : w.cell? a = some v) : a.spot = none ∧ JY w a.block a.off = some v ∧ a.block < w.heap.size := by
 unfold World.cell? at h
 unfold JY
 split at h
 ·rename_i c t fz hb
  split at h
  ·cases h
  ·rename_i hs
   refine ⟨by simpa using hs, by rw [hb]; exact h, ?_⟩
   have := Array.getElem?_eq_some_iff.1 hb
   exact this.1
 ·cases h
theorem JsD {a : Addr} {n : Nat} {cs : List Value} (h : w.cells? base a n = some cs) : cs.length = n ∧ ∀ i v, cs[i]? = some v → w.cell? (a.add i) = some v := by
 unfold World.cells? at h
 split at h
 ·have hl := mapM_some_length h
  refine ⟨by simpa using hl, fun i v hv => ?_⟩
  have hi : i < n := by
   have := (List.getElem?_eq_some_iff.1 hv).1
   simp at hl; omega
  have := mapM_some_get h i i (by simp [hi])
  rw [this, hv]
 ·cases h
theorem JiY {α : Type} (Q : Nat → α → Prop) : ∀ (m : Nat), (∀ i, i < m → ∃ x, Q i x) → ∃ xs : List α, xs.length = m ∧ ∀ i x, xs[i]? = some x → Q i x
 | 0, _ => ⟨[], rfl, fun i x h => by simp at h⟩
 | m + 1, h => by
  obtain ⟨xs, hl, hx⟩ := JiY Q m (fun i hi => h i (by omega))
  obtain ⟨y, hy⟩ := h m (by omega)
  refine ⟨xs ++ [y], by simp [hl], fun i x hi => ?_⟩
  rcases Nat.lt_or_ge i xs.length with hlt | hge
  ·rw [List.getElem?_append_left hlt] at hi; exact hx i x hi
  ·rw [List.getElem?_append_right hge] at hi
   have : i - xs.length = 0 := by
    have := (List.getElem?_eq_some_iff.1 hi).1
    simp at this; omega
   rw [this] at hi
   simp at hi; subst hi
   obtain rfl : i = m := by omega
   exact hy
theorem Jfj {α : Type} : ∀ (xs : List (List α)) (j : Nat) (y : List α), xs[j]? = some y → (xs.flatten.drop ((xs.take j).map List.length).sum).take y.length = y
 | [], j, y, h => by simp at h
 | x :: xs, 0, y, h => by simp at h; subst h; simp
 | x :: xs, j + 1, y, h => by
  simp at h
  have := Jfj xs j y h
  simp only [List.take_succ_cons, List.map_cons, List.sum_cons, List.flatten_cons, List.drop_length_add_append]
  exact this
theorem Jux (hl : laidOutB P = true) (hm : mapsRowed P = true) : ∀ (n : Nat) (t : TypeId) (cs : List Value) (x : DataW H × List MemPlace) (fuel : Nat), Ja6 P n t = true → DataW.trod enc P w base sp held fuel t cs = some x →
  ∃ pvs, J9T P n t pvs ∧ Jp9 w pvs cs := by
 have K := kids_rows hl hm
 intro n
 induction n with
 | zero => intro t cs x fuel hp; simp [Ja6] at hp
 | succ n ih =>
  intro t cs x fuel hp h
  unfold Ja6 at hp
  unfold J9T
  split at hp
  ·rename_i ht
   obtain ⟨b, rfl, _⟩ := DataW.trod_bool ht h
   refine ⟨[.b b], by simp, rfl, fun i p v h1 h2 => ?_⟩
   match i with
   | 0 => simp at h1 h2; subst h1 h2; exact .b _
   | i + 1 => simp at h1
  ·rename_i k ht
   obtain ⟨z, rfl, _, hwf⟩ := DataW.trod_int ht h
   refine ⟨[.i k z], by simpa using hwf, rfl, fun i p v h1 h2 => ?_⟩
   match i with
   | 0 => simp at h1 h2; subst h1 h2; exact .i _ _
   | i + 1 => simp at h1
  ·rename_i ht
   obtain ⟨s, rfl, _, hsz⟩ := DataW.trod_string ht h
   refine ⟨[.s s.data.toList], ⟨_, rfl, by rw [Array.length_toList]; exact hsz⟩, rfl, fun i p v h1 h2 => ?_⟩
   match i with
   | 0 => simp at h1 h2; subst h1 h2; exact .s _
   | i + 1 => simp at h1
  ·rename_i e ht
   simp only [Bool.and_eq_true, decide_eq_true_eq] at hp
   rcases DataW.trod_slice ht h with ⟨rfl, _⟩ | ⟨a, len, cap, elems, rest, n0, _, rfl, _, _, hlc, hcm, hel, hat, _⟩
   ·refine ⟨[.sl (P.cellsOf e) []], ⟨[], rfl, Nat.zero_le _, by simp⟩, rfl, fun i p v h1 h2 => ?_⟩
    match i with
    | 0 => simp at h1 h2; subst h1 h2; exact .sl0 _ _ _
    | i + 1 => simp at h1
   ·
    have hrow : ∀ i, i < len → ∃ row : List PV, (row.length = P.cellsOf e ∧ J9T P n e row) ∧ ∀ j p, row[j]? = some p → ∃ v, w.cell? (a.add (i * P.cellsOf e) |>.add j) = some v ∧ JJ w (fun r _ => r < w.heap.size) p v := by
     intro i hi
     have h1 := hat i hi
     have h2 : ∃ y, elems[i]? = some y := ⟨_, List.getElem?_eq_getElem (by omega)⟩
     obtain ⟨y, hy⟩ := h2
     rw [hy, Option.bind_eq_some_iff] at h1
     obtain ⟨cs', hc, ht'⟩ := h1
     obtain ⟨row, q1, q2, q3⟩ := ih e cs' y n0 hp.1 ht'
     obtain ⟨c1, c2⟩ := JsD hc
     refine ⟨row, ⟨by omega, q1⟩, fun j p hj => ?_⟩
     have hlt : j < cs'.length := by have := (List.getElem?_eq_some_iff.1 hj).1; omega
     have hv := List.getElem?_eq_getElem hlt
     exact ⟨_, c2 j _ hv, q3 j p _ hj hv⟩
    obtain ⟨rows, hrl, hrows⟩ := JiY _ len hrow
    refine ⟨[.sl (P.cellsOf e) rows], ⟨rows, rfl, by omega, fun row hr => ?_⟩, rfl, fun i p v h1 h2 => ?_⟩
    ·obtain ⟨i, hi⟩ := List.getElem?_of_mem hr
     exact (hrows i row hi).1
    match i with
    | i + 1 => simp at h1
    | 0 =>
     simp at h1 h2; subst h1 h2
     by_cases h0 : ∃ (i j : Nat) (row : List PV) (p : PV), rows[i]? = some row ∧ row[j]? = some p
     ·obtain ⟨i0, j0, row0, p0, hr0, hp0⟩ := h0
      have spot : a.spot = none ∨ P.cellsOf e = 0 := by
       rcases Nat.eq_zero_or_pos (P.cellsOf e) with hz | hpos
       ·exact .inr hz
       ·have hlen : 0 < len := by have := (List.getElem?_eq_some_iff.1 hr0).1; omega
        have hr00 := List.getElem?_eq_getElem (l := rows) (i := 0) (by omega)
        have q := hrows 0 _ hr00
        have hj0 := List.getElem?_eq_getElem (l := rows[0]'(by omega)) (i := 0) (by omega)
        obtain ⟨v, hv, _⟩ := q.2 0 _ hj0
        rw [Nat.zero_mul] at hv
        exact .inl (by simpa [Addr.add] using (JfE hv).1)
      rcases spot with spot | hz
      ·have cell : ∀ (i j : Nat) (row : List PV) (p : PV), rows[i]? = some row → row[j]? = some p → ∃ v, (a.block < w.heap.size ∧ JY w a.block (a.off + i * P.cellsOf e + j) = some v) ∧ JJ w (fun r _ => r < w.heap.size) p v := by
        intro i j row p hi hj
        obtain ⟨v, hv, hr⟩ := (hrows i row hi).2 j p hj
        obtain ⟨s1, s2, s3⟩ := JfE hv
        refine ⟨v, ?_, hr⟩
        have e1 : ((a.add (i * P.cellsOf e)).add j).block = a.block := by unfold Addr.add; split <;> split <;> rfl
        have e2 : ((a.add (i * P.cellsOf e)).add j).off = a.off + i * P.cellsOf e + j := by
         unfold Addr.add
         split <;> split <;> simp_all
        rw [e1] at s3
        rw [e1, e2] at s2
        exact ⟨s3, s2⟩
       have ea : a = ⟨a.block, a.off, none⟩ := by cases a; simp_all
       rw [ea, ← hrl]
       refine .sl _ rows a.block a.off cap (fun i j => ((JY w a.block (a.off + i * P.cellsOf e + j)).getD default)) (by omega) (fun row hr => ?_) (fun i j row p hi hj => ?_) (fun i j row p hi hj => ?_)
       ·obtain ⟨i, hi⟩ := List.getElem?_of_mem hr
        exact (hrows i row hi).1.1
       ·obtain ⟨v, ⟨h3, h4⟩, _⟩ := cell i j row p hi hj
        exact ⟨h3, by rw [h4]; rfl⟩
       ·obtain ⟨v, ⟨h3, h4⟩, h5⟩ := cell i j row p hi hj
        rw [h4]; exact h5
      ·have := (hrows i0 row0 hr0).1.1
       have := (List.getElem?_eq_some_iff.1 hp0).1
       omega
     ·
      rcases Nat.eq_zero_or_pos len with hz | hpos
      ·have : rows = [] := by cases rows <;> simp_all
       subst this
       subst hz
       exact .sl0 _ _ _
      ·exfalso
       have hr00 := List.getElem?_eq_getElem (l := rows) (i := 0) (by omega)
       have q := (hrows 0 _ hr00).1.1
       exact h0 ⟨0, 0, _, _, hr00, List.getElem?_eq_getElem (by omega)⟩
  ·rename_i fs ht
   simp only [Bool.and_eq_true, decide_eq_true_eq, List.all_eq_true] at hp
   obtain ⟨xs, n0, _, _, hcl, hxl, hat⟩ := DataW.trod_struct ht h
   obtain ⟨_, ksum, koff⟩ := K.struct hp.2 ht
   have hf : ∀ i, i < fs.toList.length → ∃ ys : List PV, ∀ f, fs.toList[i]? = some f → J9T P n f.type ys ∧ Jp9 w ys ((cs.drop f.offset).take (P.cellsOf f.type)) := by
    intro i hi
    have hfi := List.getElem?_eq_getElem hi
    have hmem := List.mem_of_getElem? hfi
    have hfa : fs[i]? = some (fs.toList[i]) := by rw [← Array.getElem?_toList]; exact hfi
    have h1 := hat i _ hfa
    have h2 : ∃ y, xs[i]? = some y := ⟨_, List.getElem?_eq_getElem (by simpa [hxl] using hi)⟩
    obtain ⟨y, hy⟩ := h2
    rw [hy] at h1
    obtain ⟨ys, q1, q2⟩ := ih _ _ _ _ (hp.1 _ hmem) h1
    refine ⟨ys, fun f hff => ?_⟩
    rw [hfi] at hff; injection hff with hff; subst hff
    exact ⟨q1, q2⟩
   obtain ⟨yss, hyl, hys⟩ := JiY _ _ hf
   have hlen : ∀ (j : Nat) (f : Field), fs.toList[j]? = some f → ∀ ys : List PV, yss[j]? = some ys → ys.length = P.cellsOf f.type := by
    intro j f hj ys hy
    have q := (hys j ys hy f hj).2.1
    have o := koff j f hj
    rw [q, List.length_take, List.length_drop, hcl, ksum, o]
    have : ((fs.toList.take j).map fun f => P.cellsOf f.type).sum + P.cellsOf f.type ≤ (fs.toList.map fun f => P.cellsOf f.type).sum := by
     have e1 : fs.toList = fs.toList.take j ++ (f :: fs.toList.drop (j + 1)) := by
      have hjl := (List.getElem?_eq_some_iff.1 hj)
      obtain ⟨hjl, he⟩ := hjl
      rw [← he, ← List.drop_eq_getElem_cons hjl, List.take_append_drop]
     conv => rhs; rw [e1]
     simp only [List.map_append, List.map_cons, List.sum_append, List.sum_cons]
     omega
    omega
   have hmapl : yss.map List.length = fs.toList.map fun f => P.cellsOf f.type := by
    apply List.ext_getElem?
    intro j
    rw [List.getElem?_map, List.getElem?_map]
    cases hy : yss[j]? with
    | none =>
     have : fs.toList[j]? = none := by rw [List.getElem?_eq_none_iff] at hy ⊢; omega
     rw [this]; rfl
    | some ys =>
     have hj : j < fs.toList.length := by have := (List.getElem?_eq_some_iff.1 hy).1; omega
     have hfj := List.getElem?_eq_getElem hj
     rw [hfj]
     simp only [Option.map_some]
     rw [hlen j _ hfj ys hy]
   have hoff : ∀ (j : Nat) (f : Field), fs.toList[j]? = some f → ((yss.take j).map List.length).sum = f.offset := by
    intro j f hj
    rw [koff j f hj, List.map_take, hmapl, ← List.map_take]
   refine ⟨yss.flatten, ⟨?_, fun f hf => ?_⟩, ?_, fun i p v h1 h2 => ?_⟩
   ·rw [List.length_flatten, hmapl, ksum]
   ·obtain ⟨j, hj⟩ := List.getElem?_of_mem hf
    have hjl : j < yss.length := by have := (List.getElem?_eq_some_iff.1 hj).1; omega
    have hyj := List.getElem?_eq_getElem hjl
    have := Jfj yss j _ hyj
    rw [hoff j f hj, hlen j f hj _ hyj] at this
    rw [this]
    exact (hys j _ hyj f hj).1
   ·rw [List.length_flatten, hmapl, hcl, ksum]
   ·
    have key : ∀ (l : List (List PV)) (i : Nat) p, l.flatten[i]? = some p → ∃ j ys k, l[j]? = some ys ∧ ys[k]? = some p ∧ i = ((l.take j).map List.length).sum + k := by
     intro l
     induction l with
     | nil => intro i p h; simp at h
     | cons y l ihl =>
      intro i p h
      rw [List.flatten_cons] at h
      rcases Nat.lt_or_ge i y.length with hlt | hge
      ·rw [List.getElem?_append_left hlt] at h
       exact ⟨0, y, i, rfl, h, by simp⟩
      ·rw [List.getElem?_append_right hge] at h
       obtain ⟨j, ys, k, a1, a2, a3⟩ := ihl _ _ h
       exact ⟨j + 1, ys, k, by simpa using a1, a2, by simp only [List.take_succ_cons, List.map_cons, List.sum_cons]; omega⟩
    obtain ⟨j, ys, k, a1, a2, a3⟩ := key _ _ _ h1
    have hj : j < fs.toList.length := by have := (List.getElem?_eq_some_iff.1 a1).1; omega
    have hfj := List.getElem?_eq_getElem hj
    have q := (hys j ys a1 _ hfj).2
    refine q.2 k p v a2 ?_
    have hk : k < P.cellsOf (fs.toList[j]).type := by have := (List.getElem?_eq_some_iff.1 a2).1; rw [hlen j _ hfj ys a1] at this; exact this
    rw [List.getElem?_take_of_lt hk, List.getElem?_drop, ← hoff j _ hfj, ← a3]
    exact h2
  ·rename_i m e ht
   simp only [Bool.and_eq_true, decide_eq_true_eq] at hp
   obtain ⟨xs, n0, _, _, hcl, hxl, hat⟩ := DataW.trod_array ht h
   obtain ⟨_, ksz⟩ := K.array hp.2 ht
   have hf : ∀ i, i < m → ∃ ys : List PV, J9T P n e ys ∧ Jp9 w ys ((cs.drop (i * P.cellsOf e)).take (P.cellsOf e)) := by
    intro i hi
    have h1 := hat i hi
    have h2 : ∃ y, xs[i]? = some y := ⟨_, List.getElem?_eq_getElem (by omega)⟩
    obtain ⟨y, hy⟩ := h2
    rw [hy] at h1
    exact ih _ _ _ _ hp.1 h1
   obtain ⟨yss, hyl, hys⟩ := JiY _ _ hf
   have hlen : ∀ (j : Nat) ys, yss[j]? = some ys → ys.length = P.cellsOf e := by
    intro j ys hy
    have q := (hys j ys hy).2.1
    have hj : j < m := by have := (List.getElem?_eq_some_iff.1 hy).1; omega
    rw [q, List.length_take, List.length_drop, hcl, ksz]
    have : j * P.cellsOf e + P.cellsOf e ≤ m * P.cellsOf e := by rw [← Nat.succ_mul]; exact Nat.mul_le_mul_right _ hj
    omega
   have hall : ∀ y ∈ yss, y.length = P.cellsOf e := fun y hy => by
    obtain ⟨j, hj⟩ := List.getElem?_of_mem hy
    exact hlen j y hj
   have hsum : ∀ l : List (List PV), (∀ y ∈ l, y.length = P.cellsOf e) → (l.map List.length).sum = l.length * P.cellsOf e := by
    intro l
    induction l with
    | nil => intro _; simp
    | cons y l ihl => intro hh; simp [hh y (by simp), ihl (fun z hz => hh z (by simp [hz])), Nat.succ_mul, Nat.add_comm]
   have hoff : ∀ j, j ≤ m → ((yss.take j).map List.length).sum = j * P.cellsOf e := by
    intro j hj
    rw [hsum _ (fun y hy => hall y (List.mem_of_mem_take hy)), List.length_take, hyl, Nat.min_eq_left hj]
   refine ⟨yss.flatten, ⟨?_, fun j hj => ?_⟩, ?_, fun i p v h1 h2 => ?_⟩
   ·rw [List.length_flatten, hsum _ hall, hyl, ksz]
   ·have hyj := List.getElem?_eq_getElem (l := yss) (i := j) (by omega)
    have := Jfj yss j _ hyj
    rw [hoff j (by omega), hlen j _ hyj] at this
    rw [this]
    exact (hys j _ hyj).1
   ·rw [List.length_flatten, hsum _ hall, hcl, hyl, ksz]
   ·have key : ∀ (l : List (List PV)) (i : Nat) p, l.flatten[i]? = some p → ∃ j ys k, l[j]? = some ys ∧ ys[k]? = some p ∧ i = ((l.take j).map List.length).sum + k := by
     intro l
     induction l with
     | nil => intro i p h; simp at h
     | cons y l ihl =>
      intro i p h
      rw [List.flatten_cons] at h
      rcases Nat.lt_or_ge i y.length with hlt | hge
      ·rw [List.getElem?_append_left hlt] at h
       exact ⟨0, y, i, rfl, h, by simp⟩
      ·rw [List.getElem?_append_right hge] at h
       obtain ⟨j, ys, k, a1, a2, a3⟩ := ihl _ _ h
       exact ⟨j + 1, ys, k, by simpa using a1, a2, by simp only [List.take_succ_cons, List.map_cons, List.sum_cons]; omega⟩
    obtain ⟨j, ys, k, a1, a2, a3⟩ := key _ _ _ h1
    have hj : j < m := by have := (List.getElem?_eq_some_iff.1 a1).1; omega
    have q := (hys j ys a1).2
    refine q.2 k p v a2 ?_
    have hk : k < P.cellsOf e := by have := (List.getElem?_eq_some_iff.1 a2).1; rw [hlen j ys a1] at this; exact this
    rw [List.getElem?_take_of_lt hk, List.getElem?_drop, ← hoff j (by omega), ← a3]
    exact h2
  ·cases hp
end
end Go.Am
end
section
namespace Go.Am
open Go.ChangeShapes Go.WideShapes Go.ChangeAt Go.RowKit
def gh0 (w : World) : Gh := ⟨fun _ => none, fun r _ => r < w.heap.size⟩
theorem Jki (g : Gh) (w : World) (b r o : Nat) : ¬ Wr1 ⟨[], g, w⟩ b r o := by
 unfold Wr1; simp
theorem JwL (w : World) : Inv ⟨[], gh0 w, w⟩ where
 box := fun b cs h => by simp at h
 arr := fun b wm esz rows h => by simp at h
 apart := fun b1 b2 r o h => absurd h (Jki _ _ _ _ _)
 const := fun r o h => ⟨h, fun b => Jki _ _ _ _ _⟩
def JcP (w w' : World) : Prop := Jbc (fun _ _ => False) w w'
theorem JcP.kept {w w' : World} (h : JcP w w') (may : MemPlace → Prop) : w.keptBut w' may := by
 obtain ⟨h1, h2, h3, h4, h5⟩ := h
 refine ⟨h4, h5, fun i hi => ?_⟩
 have hg := Array.getElem?_eq_getElem hi
 cases hw : w.heap[i]? with
 | none => rw [hg] at hw; cases hw
 | some x =>
  cases x with
  | cells c e fz =>
   obtain ⟨c', q1, q2, q3⟩ := h2 i c e fz hw
   rw [q1]
   exact ⟨rfl, rfl, q2, fun j _ => q3 j (fun hf => hf)⟩
  | map es clock =>
   have := h3 i _ hw (fun c e fz he => by cases he)
   rw [this]
   exact .inr ⟨rfl, rfl⟩
  | _ =>
   have := h3 i _ hw (fun c e fz he => by cases he)
   rw [this]
theorem JcP.same {w w' : World} (h : JcP w w') {p : MemPlace} (hp : p.block < w.heap.size) : w.sameAt w' p := by
 obtain ⟨h1, h2, h3, h4, h5⟩ := h
 cases p with
 | cell b off =>
  have hb : b < w.heap.size := hp
  have hg := Array.getElem?_eq_getElem hb
  show w'.cell? ⟨b, off, none⟩ = w.cell? ⟨b, off, none⟩
  rw [J55, J55]
  unfold JY
  cases hw : w.heap[b]? with
  | none => rw [hg] at hw; cases hw
  | some x =>
   cases x with
   | cells c e fz =>
    obtain ⟨c', q1, q2, q3⟩ := h2 b c e fz hw
    rw [q1]
    exact q3 off (fun hf => hf)
   | _ =>
    have := h3 b _ hw (fun c e fz he => by cases he)
    rw [this]
 | map b =>
  have hb : b < w.heap.size := hp
  have hg := Array.getElem?_eq_getElem hb
  show w'.heap[b]? = w.heap[b]?
  cases hw : w.heap[b]? with
  | none => rw [hg] at hw; cases hw
  | some x =>
   cases x with
   | cells c e fz =>
    obtain ⟨c', q1, q2, q3⟩ := h2 b c e fz hw
    rw [q1]
    have : c' = c := by
     apply Array.ext_getElem?
     intro i
     exact q3 i (fun hf => hf)
    rw [this]
   | _ => exact h3 b _ hw (fun c e fz he => by cases he)
theorem JcP.frozen {w w' : World} (h : JcP w w') {a : Addr} (hp : a.block < w.heap.size) : w'.frozen? a = w.frozen? a := by
 obtain ⟨h1, h2, h3, h4, h5⟩ := h
 have hg := Array.getElem?_eq_getElem hp
 unfold World.frozen?
 cases hw : w.heap[a.block]? with
 | none => rw [hg] at hw; cases hw
 | some x =>
  cases x with
  | cells c e fz =>
   obtain ⟨c', q1, q2, q3⟩ := h2 a.block c e fz hw
   rw [q1]
  | _ =>
   have := h3 a.block _ hw (fun c e fz he => by cases he)
   rw [this]
theorem JqQ {P : Program} {F : Orc} (hF : J5r P F) {f : FuncId} {args : List AV} {vals : Array Value} {w : World} (hl : args.length = vals.size)
  (hr : ∀ (i : Nat) x v, args[i]? = some x → vals[i]? = some v → Jr ⟨[], gh0 w, w⟩ x v) (h : F f args [] = some (.p (.b true), [])) :
  Calls P f vals w fun e w' => e = .returned (.bool true) ∧ JcP w w' := by
 refine ((hF _ _ _ _ h).2 (gh0 w) w vals (JwL w) hl hr).mono fun e w' ⟨v, g', he, _, ht, hrel⟩ => ?_
 cases hrel with
 | p _ _ hrel =>
  cases hrel with
  | b =>
   refine ⟨he, ?_⟩
   obtain ⟨k1, k2, k3, k4⟩ := ht.keep
   refine ⟨k1, fun r c e fz hr => ?_, k3, k4⟩
   obtain ⟨c', q1, q2, q3⟩ := k2 r c e fz hr
   exact ⟨c', q1, q2, fun o _ => q3 o (fun ⟨b, hb⟩ => Jki _ _ _ _ _ hb)⟩
section
variable {H : Type} {enc : TypeId × Value → H} {P : Program}
theorem JeI (hl : laidOutB P = true) (hm : mapsRowed P = true) (hsz : ∀ {t e : TypeId}, t < P.types.size → P.underlying t = some (.slice e) → 0 < P.cellsOf e) {W W' : World} {sp : Nat → Bool} :
  ∀ {ts : List TypeId} {vs : List Value} {ds : List (DataW H)} {ps : List MemPlace}, (∀ t ∈ ts, t < P.types.size) → DataW.TrodAll enc P W 0 (fun _ => true) true ts vs ds ps →
   (∀ p ∈ ps, W.sameAt W' p) → (∀ p ∈ ps, sp p.block = true) → DataW.TrodAll enc P W' 0 sp true ts vs ds ps
 | [], [], [], _, _, h, _, _ => h
 | [], _ :: _, _, _, _, h, _, _ => h.elim
 | [], [], _ :: _, _, _, h, _, _ => h.elim
 | _ :: _, [], _, _, _, h, _, _ => h.elim
 | _ :: _, _ :: _, [], _, _, h, _, _ => h.elim
 | t :: ts, v :: vs, d :: ds, _, hT, ⟨p, q, ⟨n, h1⟩, h2, rfl⟩, hs, hp => by
  refine ⟨p, q, ⟨n, DataW.trod_stays (kids_rows hl hm) hsz (fun h => by cases h) (hT t (by simp)) h1 (fun x hx => hs x (by simp [hx])) (fun x hx => hp x (by simp [hx]))⟩, ?_, rfl⟩
  exact JeI hl hm hsz (fun x hx => hT x (by simp [hx])) h2 (fun x hx => hs x (by simp [hx])) (fun x hx => hp x (by simp [hx]))
def JaP (P : Program) : Bool := (List.range P.types.size).all fun t => match P.underlying t with
 | some (.slice e) => decide (0 < P.cellsOf e)
 | _ => true
theorem JmA (h : JaP P = true) {t e : TypeId} (ht : t < P.types.size) (he : P.underlying t = some (.slice e)) : 0 < P.cellsOf e := by
 unfold JaP at h
 rw [List.all_eq_true] at h
 have := h t (by simpa using ht)
 rw [he] at this
 simpa using this
theorem JrN {fn : Func} {s : ChangeSpec} {tb : TypeId} (hl : laidOutB P = true) (hm : mapsRowed P = true) (hsz : JaP P = true) (hpar : ∀ t ∈ fn.params.toList, t < P.types.size)
  (hres : fn.resultTypes = #[tb]) (htb : P.underlying tb = some .bool) (hvars : s.vars = []) {apart fresh handsOn again : Bool} {W W' : World} {args : Array Value} {ds gs : List (DataW H)} {before : List MemPlace}
  (hfn : gs = [] → s.fn H (ds ++ gs) = { results := [.lit (.bool true)], args := ds })
  (hW : DataW.Whole enc P fn.params.toList s.vars apart W args.toList ds gs before) (hst : JcP W W') : s.post enc P fn apart fresh handsOn again W args (.bool true) W' := by
 have hW0 := hW
 have hlt := hW.lt
 obtain ⟨p, q, h1, h2, rfl, hz, hn⟩ := hW
 rw [hvars] at h2
 obtain ⟨rfl, rfl⟩ := trodVars_none h2
 rw [List.append_nil] at hW0 hlt hz hn
 have hf := hfn rfl
 have hargs : ∀ sp : Nat → Bool, (∀ x ∈ p, sp x.block = true) → DataW.TrodAll enc P W' 0 sp true fn.params.toList args.toList ds p := fun sp hp =>
  JeI hl hm (fun ht he => JmA hsz ht he) hpar h1 (fun x hx => hst.same (hlt x hx)) hp
 have hr : ∀ (b : Nat) (sp : Nat → Bool) (hd : Bool), DataW.TrodAll enc P W' b sp hd fn.resultTypes.toList ((Value.bool true).resultList fn.resultTypes.size) [.lit (.bool true)] [] := by
  intro b sp hd
  rw [hres]
  exact trodAll_cons_mk (shut_bool htb _) trodAll_mk0
 refine ⟨ds, [], p, [], p, [], hW0, ?_, ?_, ?_, hst.kept _, fun _ => ⟨?_, ?_⟩⟩
 ·rw [hf]; exact hr _ _ _
 ·rw [hf]; exact hargs _ (fun x hx => by simpa using hlt x hx)
 ·rw [hf, hvars]; rfl
 ·exact ok_one hres rfl (okWide_bool_mk htb _)
 ·refine ⟨_, [], [] ++ p, ⟨[] ++ p, [], trodAll_append (hargs _ (fun _ _ => rfl)) (hr _ _ _), by rw [hvars]; rfl, by simp, fun b off hp => ?_, fun ha => by simpa using hn ha⟩, fun x hx _ => by simpa using hx⟩
  have hp' : MemPlace.cell b off ∈ p := by simpa using hp
  rw [hst.frozen (a := ⟨b, off, none⟩) (hlt _ hp')]
  exact hz b off hp'
def Jk3 (P : Program) (t : TypeId) (pvs : List PV) : AV := match P.underlying t with
 | some (.struct _) => .data pvs
 | some (.array _ _) => .data pvs
 | _ => match pvs with
  | [c] => .p c
  | _ => .unk
theorem JjG (hl : laidOutB P = true) (hm : mapsRowed P = true) {n : Nat} {t : TypeId} {w : World} {r : Reach} {base : Nat} {sp : Nat → Bool} {v : Value} {d : DataW H} {ps : List MemPlace} (hp : Ja6 P n t = true)
  (hv : Value.okWide P w r base t v) (h : DataW.Trod enc P w 0 sp true t v d ps) : ∃ pvs, J9T P n t pvs ∧ Jr ⟨[], gh0 w, w⟩ (Jk3 P t pvs) v := by
 obtain ⟨fuel, h⟩ := h
 obtain ⟨pvs, q1, q2, q3⟩ := Jux hl hm n t _ _ fuel hp h
 refine ⟨pvs, q1, ?_⟩
 cases n with
 | zero => simp [Ja6] at hp
 | succ n =>
  unfold Ja6 at hp
  unfold Value.okWide at hv
  unfold Jk3
  have one : ∀ {c : PV}, pvs = [c] → (∀ cs, v ≠ .agg cs) → Jr ⟨[], gh0 w, w⟩ (.p c) v := by
   intro c hc hne
   subst hc
   refine .p _ _ (q3 0 c v rfl ?_)
   cases v <;> first | rfl | exact absurd rfl (hne _)
  unfold J9T at q1
  split at hp
  ·rename_i ht
   rw [ht] at q1 hv ⊢
   obtain ⟨b, rfl⟩ := q1
   exact one rfl (fun cs he => by subst he; simp [Cell.okWide, Cell.ok, ht] at hv)
  ·rename_i k ht
   rw [ht] at q1 hv ⊢
   obtain ⟨z, rfl, _⟩ := q1
   exact one rfl (fun cs he => by subst he; simp [Cell.okWide, Cell.ok, ht] at hv)
  ·rename_i ht
   rw [ht] at q1 hv ⊢
   obtain ⟨z, rfl, _⟩ := q1
   exact one rfl (fun cs he => by subst he; simp [Cell.okWide, Cell.ok, ht] at hv)
  ·rename_i e ht
   rw [ht] at q1 hv ⊢
   obtain ⟨rows, rfl, _⟩ := q1
   exact one rfl (fun cs he => by subst he; simp [Cell.okWide, Cell.ok, ht] at hv)
  ·rename_i fs ht
   rw [ht] at hv ⊢
   obtain ⟨cs, rfl, _⟩ := hv
   exact .data _ _ (by simpa [Value.cells] using q2) (fun i x v h1 h2 => q3 i x v h1 (by simpa [Value.cells] using h2))
  ·rename_i m e ht
   rw [ht] at hv ⊢
   obtain ⟨cs, rfl, _⟩ := hv
   exact .data _ _ (by simpa [Value.cells] using q2) (fun i x v h1 h2 => q3 i x v h1 (by simpa [Value.cells] using h2))
  ·cases hp
end
end Go.Am
end
