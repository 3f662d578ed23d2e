/-
  The law, in plain terms: bytes of pages.
-/
import Derived.Test.YteiakclfpfmigaaPlain
set_option linter.unusedSimpArgs false
set_option linter.unusedVariables false
namespace Go.Am

/-! ### Numbers -/

theorem numS_inj {a b : Int} (ha : 0 ≤ a) (ha2 : a ≤ 1099511627776) (hb : 0 ≤ b) (hb2 : b ≤ 1099511627776) (h : numS a 8 = numS b 8) : a = b := by
  have key : ∀ i : Nat, i < 8 → byteAt a i = byteAt b i := by
    intro i hi
    have h2 : (numS a 8)[i]? = (numS b 8)[i]? := by rw [h]
    simp only [numS, toStr, List.map_map, List.getElem?_map, List.getElem?_range hi, Option.map_some, Function.comp, Option.some.injEq] at h2
    have h3 := congrArg (fun u : UInt8 => (u.toNat : Int)) h2
    simp only [byteAt_nat] at h3
    exact h3
  have e : ∀ (n : Int) (i : Nat), 0 ≤ n → n ≤ 1099511627776 → byteAt n i = n / (2 ^ (8 * i)) % 256 := by
    intro n i h0 h1
    show ((IntKind.wrap .u64 n).fdiv (2 ^ (8 * i))) % 256 = _
    rw [Int.fdiv_eq_ediv_of_nonneg _ (Int.le_of_lt (Int.pow_pos (by decide))), wrapu64 h0 (by omega)]
  have k0 := key 0 (by omega); have k1 := key 1 (by omega); have k2 := key 2 (by omega); have k3 := key 3 (by omega); have k4 := key 4 (by omega); have k5 := key 5 (by omega)
  rw [e _ _ ha ha2, e _ _ hb hb2] at k0 k1 k2 k3 k4 k5
  simp only [Nat.mul_zero, Nat.reduceMul, Int.reducePow] at k0 k1 k2 k3 k4 k5
  omega

/-! ### Checksums -/

theorem and15 (x : Int) : ∃ k : Nat, andI .u32 x 15 = (k : Int) ∧ k < 16 := by
  have h : (BitVec.ofInt 32 x &&& BitVec.ofInt 32 15).toNat ≤ 15 := by
    rw [BitVec.toNat_and]
    exact Nat.and_le_right
  refine ⟨(BitVec.ofInt 32 x &&& BitVec.ofInt 32 15).toNat, ?_, by omega⟩
  show (((BitVec.ofInt 32 x &&& BitVec.ofInt 32 15).toNat : Nat) : Int) % 4294967296 = _
  omega

theorem remainders_ok : ∃ v, S_codec_remainders = some v := by
  have inner : ∀ (k : Nat) (b0 b1 : Vector Int 16), k < 16 → ∀ r : Int, ∃ o, W_codec_remainders_0 k k b0 b1 (r, 0) = some o ∧ ∃ v, o = .inl (((k + 1 : Nat) : Int), v) := by
    intro k b0 b1 hk r
    refine while_total (f := fun s : Int × Int => S_codec_remainders_0 k k b0 b1 s.1 s.2) (fun s => ∃ j : Nat, s.2 = j ∧ j ≤ 4) (fun s => (4 - s.2).toNat) _ (fun s ⟨j, hj, h4⟩ => ?_) (r, 0) ⟨0, rfl, by omega⟩
    obtain ⟨x, j'⟩ := s
    simp only at hj
    subst hj
    by_cases hlt : j < 4
    · left
      have e1 : ((j : Nat) : Int) < 4 := by omega
      have e2 : shrS .u32 x 1 = some (x.fdiv (2 ^ (min (1 : Int).toNat IntKind.u32.bits))) := rfl
      by_cases hb : andI .u32 x 1 = 1
      · exact ⟨⟨_, ((j + 1 : Nat) : Int)⟩, by simp only [S_codec_remainders_0, e1, decide_true, if_true, hb, beq_self_eq_true, e2, Option.bind_some, succ64 (show j < 1000000 by omega)]; rfl, ⟨j + 1, rfl, by omega⟩, by simp; omega⟩
      · have e3 : (andI .u32 x 1 == 1) = false := by simpa using hb
        exact ⟨⟨_, ((j + 1 : Nat) : Int)⟩, by simp only [S_codec_remainders_0, e1, decide_true, if_true, e3, Bool.false_eq_true, if_false, e2, Option.bind_some, succ64 (show j < 1000000 by omega)]; rfl, ⟨j + 1, rfl, by omega⟩, by simp; omega⟩
    · right
      have e1 : ¬ ((j : Nat) : Int) < 4 := by omega
      exact ⟨.inl (((k + 1 : Nat) : Int), vset b1 k x), by simp only [S_codec_remainders_0, e1, decide_false, Bool.false_eq_true, if_false, S_codec_remainders_1, S_codec_remainders_2, inb_nat hk, vget_nat _ k hk, Option.bind_some, Option.map_some, succ64 (show k < 1000000 by omega)], _, rfl⟩
  obtain ⟨v, hv, _⟩ := while_total (f := fun s : Int × Vector Int 16 => S_codec_remainders_3 (Vector.replicate 16 0) s.1 s.2) (fun s => ∃ j : Nat, s.1 = j ∧ j ≤ 16) (fun s => (16 - s.1).toNat) (fun _ => True) (fun s ⟨j, hj, h4⟩ => by
    obtain ⟨j', b1⟩ := s
    simp only at hj
    subst hj
    by_cases hlt : j < 16
    · left
      have e1 : ((j : Nat) : Int) < 16 := by omega
      obtain ⟨o, ho, v, rfl⟩ := inner j (Vector.replicate 16 0) b1 hlt (IntKind.wrap .u32 (j : Int))
      exact ⟨⟨((j + 1 : Nat) : Int), v⟩, by simp only [S_codec_remainders_3, e1, decide_true, if_true]; exact ho, ⟨j + 1, rfl, by omega⟩, by simp; omega⟩
    · right
      have e1 : ¬ ((j : Nat) : Int) < 16 := by omega
      exact ⟨b1, by simp only [S_codec_remainders_3, e1, decide_false, Bool.false_eq_true, if_false, S_codec_remainders_4, Option.map_some], trivial⟩) (0, Vector.replicate 16 0) ⟨0, rfl, by omega⟩
  exact ⟨v, hv⟩

theorem sid_nat {l : List UInt8} {k : Nat} (h : k < l.length) : sidS l (k : Int) = some ((l[k]).toNat : Int) := by
  have e : (0 : Int) ≤ k := by omega
  simp [sidS, e, h]

theorem sum_ok (l : List UInt8) (hl : l.length ≤ 1000) : ∃ r, S_codec_Sum l = some r := by
  obtain ⟨v, hv⟩ := remainders_ok
  obtain ⟨r, hr, _⟩ := while_total (f := fun s : Int × Int => S_codec_Sum_0 l (l.length : Int) v s.1 s.2) (fun s => ∃ j : Nat, s.2 = j ∧ j ≤ l.length) (fun s => (l.length - s.2).toNat) (fun _ => True) (fun s ⟨j, hj, h4⟩ => by
    obtain ⟨x, j'⟩ := s
    simp only at hj
    subst hj
    by_cases hlt : j < l.length
    · left
      have e1 : ((j : Nat) : Int) < (l.length : Int) := by omega
      have e2 : ∀ z : Int, shrS .u32 z 4 = some (z.fdiv (2 ^ (min (4 : Int).toNat IntKind.u32.bits))) := fun _ => rfl
      have e3 : ∀ z : Int, ∃ y, inb 16 (andI .u32 z 15) = some () ∧ vget v (andI .u32 z 15) = some y := by
        intro z
        obtain ⟨k, hk, hk2⟩ := and15 z
        rw [hk]
        exact ⟨_, inb_nat hk2, vget_nat _ k hk2⟩
      obtain ⟨y1, a1, a2⟩ := e3 (xorI .u32 x (IntKind.wrap .u32 (((l[j]).toNat : Nat) : Int)))
      obtain ⟨y2, a3, a4⟩ := e3 (xorI .u32 ((xorI .u32 x (IntKind.wrap .u32 (((l[j]).toNat : Nat) : Int))).fdiv (2 ^ (min (4 : Int).toNat IntKind.u32.bits))) y1)
      exact ⟨⟨_, ((j + 1 : Nat) : Int)⟩, by simp only [S_codec_Sum_0, e1, decide_true, if_true, sid_nat hlt, Option.bind_some, e2, a1, a2, a3, a4, succ64 (show j < 1000000 by omega)]; rfl, ⟨j + 1, rfl, by omega⟩, by simp; omega⟩
    · right
      have e1 : ¬ ((j : Nat) : Int) < (l.length : Int) := by omega
      exact ⟨_, by simp only [S_codec_Sum_0, e1, decide_false, Bool.false_eq_true, if_false, S_codec_Sum_1, Option.map_some]; rfl, trivial⟩) (4294967295, 0) ⟨0, rfl, by omega⟩
  exact ⟨r, by unfold S_codec_Sum; rw [hv]; exact hr⟩

/-! ### Pages as bytes -/

theorem put_ok (l : List UInt8) (n : Int) {k : Nat} (h1 : 1 ≤ k) (h8 : k ≤ 8) (hl : l.length ≤ 1000) : S_codec_Put l n (k : Int) = some (l ++ numS n k) := by
  have e1 : ¬ ((k : Int) < 1 ∨ 8 < (k : Int)) := by omega
  have e2 : l.length + 8 ≤ 140737488355328 := by omega
  show putS l n k = _
  rw [putS, if_neg e1, if_pos e2]
  simp

theorem cat_ok {a b : List UInt8} (ha : a.length ≤ 1000) (hb : b.length ≤ 1000) : catS a b = some (a ++ b) := by
  have e : a.length + b.length ≤ 4611686018427387904 := by omega
  simp [catS, e]

theorem zeros_ok {n : Int} (h0 : 0 ≤ n) (h1 : n ≤ 1000) : S_strings_Repeat [0] n = some (List.replicate n.toNat 0) := by
  show repS [0] n = _
  have e : (0 : Int) ≤ n ∧ n ≤ 9223372036854775807 ∧ ([0] : List UInt8).length * n.toNat ≤ 140737488355328 := by
    refine ⟨h0, by omega, ?_⟩
    simp; omega
  rw [repS, if_pos e]
  have : ∀ k : Nat, (List.replicate k ([0] : List UInt8)).flatten = List.replicate k 0 := by
    intro k
    induction k with
    | zero => rfl
    | succ k ih => rw [List.replicate_succ, List.flatten_cons, ih]; rfl
  rw [this]

theorem cell_bytes (b : T_page_builder) (c : T_api_Cell) (hc : c.Data.length ≤ 12) (hb : b.s_.length ≤ 300) : ∃ t, S_page_builder_cell b c = some ⟨b.s_ ++ t⟩ ∧ t.length = 13 := by
  have go : ∀ x : Int, ∃ t, S_page_builder_cell_0 x b c = some ⟨b.s_ ++ t⟩ ∧ t.length = 13 := by
    intro x
    have e0 : IntKind.wrap .i64 (12 - ((c.Data.length : Nat) : Int)) = ((12 - c.Data.length : Nat) : Int) := by rw [wrap64 (by omega) (by omega)]; omega
    have e1 := put_ok b.s_ x (k := 1) (by omega) (by omega) (by omega)
    have e2 : catS (b.s_ ++ numS x 1) c.Data = some (b.s_ ++ numS x 1 ++ c.Data) := cat_ok (by rw [List.length_append, numS_length]; omega) (by omega)
    have e3 := zeros_ok (n := ((12 - c.Data.length : Nat) : Int)) (by omega) (by omega)
    have e4 : catS (b.s_ ++ numS x 1 ++ c.Data) (List.replicate (((12 - c.Data.length : Nat) : Int)).toNat 0) = some (b.s_ ++ numS x 1 ++ c.Data ++ List.replicate (((12 - c.Data.length : Nat) : Int)).toNat 0) := cat_ok (by simp only [List.length_append, numS_length]; omega) (by simp; omega)
    refine ⟨numS x 1 ++ c.Data ++ List.replicate (((12 - c.Data.length : Nat) : Int)).toNat 0, ?_, ?_⟩
    · unfold S_page_builder_cell_0
      rw [show (1 : Int) = ((1 : Nat) : Int) by rfl, e1, Option.bind_some, e2, Option.bind_some, e0, e3, Option.bind_some, e4, Option.bind_some]
      simp only [List.append_assoc]
    · simp only [List.length_append, numS_length, List.length_replicate]; omega
  unfold S_page_builder_cell
  split
  · exact go _
  · exact go _

structure EncOk (p : T_api_Page) (r : List UInt8 × Int) : Prop where
  ok : r.2 = 0
  len : r.1.length = 256
  head : r.1.take 8 = numS p.LSN 8
  tail : r.1.drop 248 = numS p.LSN 8
  id : (r.1.drop 8).take 4 = numS p.ID 4

theorem cells_any (p : T_api_Page) : ∃ b, S_page_cells p = some b ∧ (b = true → ∀ (i : Nat) (h : i < 16), (p.Cells[i]).Data.length ≤ 12) ∧ ((∀ (i : Nat) (h : i < 16), CellOk p.LSN p.Cells[i]) → b = true) := by
  refine while_total (f := fun s : Int => S_page_cells_0 p.Cells p s) (fun s => ∃ j : Nat, s = j ∧ j ≤ 16 ∧ ∀ (i : Nat) (h : i < 16), i < j → (p.Cells[i]).Data.length ≤ 12) (fun s => (16 - s).toNat)
    (fun b => (b = true → ∀ (i : Nat) (h : i < 16), (p.Cells[i]).Data.length ≤ 12) ∧ ((∀ (i : Nat) (h : i < 16), CellOk p.LSN p.Cells[i]) → b = true)) (fun s ⟨j, hj, h4, hc⟩ => ?_) 0 ⟨0, rfl, by omega, fun i h hh => by omega⟩
  subst hj
  by_cases hlt : j < 16
  · have e1 : ((j : Nat) : Int) < 16 := by omega
    have e2 := vget_nat p.Cells j hlt
    have e3 := succ64 (show j < 1000000 by omega)
    have bad : ¬ CellOk p.LSN p.Cells[j] → (∀ (i : Nat) (h : i < 16), CellOk p.LSN p.Cells[i]) → false = true := fun h1 h2 => (h1 (h2 j hlt)).elim
    by_cases h12 : (((p.Cells[j]).Data.length : Nat) : Int) > 12
    · right
      exact ⟨false, by simp only [S_page_cells_0, e1, decide_true, if_true, e2, Option.bind_some, h12], fun h => (by cases h), bad fun h => by have := h.1; omega⟩
    · have nxt : ∀ (i : Nat) (h : i < 16), i < j + 1 → (p.Cells[i]).Data.length ≤ 12 := by
        intro i hi hij
        by_cases hh : i < j
        · exact hc i hi hh
        · obtain rfl : i = j := by omega
          omega
      by_cases hs : (p.Cells[j]).Set = true
      · by_cases hl : p.LSN = 0
        · right
          exact ⟨false, by simp only [S_page_cells_0, e1, decide_true, if_true, e2, Option.bind_some, h12, decide_false, Bool.false_eq_true, if_false, hs, hl, beq_self_eq_true], fun h => (by cases h), bad fun h => h.2.2 hs hl⟩
        · left
          have e4 : (p.LSN == 0) = false := by simpa using hl
          exact ⟨((j + 1 : Nat) : Int), by simp only [S_page_cells_0, e1, decide_true, if_true, e2, Option.bind_some, h12, decide_false, Bool.false_eq_true, if_false, hs, e4, e3], ⟨j + 1, rfl, by omega, nxt⟩, by omega⟩
      · have hs' : (p.Cells[j]).Set = false := by simpa using hs
        by_cases hd : (p.Cells[j]).Data = []
        · left
          exact ⟨((j + 1 : Nat) : Int), by simp only [S_page_cells_0, e1, decide_true, if_true, e2, Option.bind_some, h12, decide_false, Bool.false_eq_true, if_false, hs', hd, beq_self_eq_true, e3]; rfl, ⟨j + 1, rfl, by omega, nxt⟩, by omega⟩
        · right
          have e4 : ((p.Cells[j]).Data == []) = false := by simpa using hd
          exact ⟨false, by simp only [S_page_cells_0, e1, decide_true, if_true, e2, Option.bind_some, h12, decide_false, Bool.false_eq_true, if_false, hs', e4], fun h => (by cases h), bad fun h => hd (h.2.1 hs')⟩
  · right
    have e1 : ¬ ((j : Nat) : Int) < 16 := by omega
    exact ⟨true, by simp only [S_page_cells_0, e1, decide_false, Bool.false_eq_true, if_false, S_page_cells_1, Option.map_some], fun _ i h => hc i h (by omega), fun _ => rfl⟩

end Go.Am
