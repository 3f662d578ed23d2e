/-
  Parts of a proof: YteiakclfpfmigaaPlain2, YteiakclfpfmigaaCrc, YteiakclfpfmigaaPlain3, YteiakclfpfmigaaPlain4, YteiakclfpfmigaaBack, YteiakclfpfmigaaBack2, YteiakclfpfmigaaBack3, YteiakclfpfmigaaBack4, YteiakclfpfmigaaBack5, YteiakclfpfmigaaInj, YteiakclfpfmigaaInj2, YteiakclfpfmigaaRef, YteiakclfpfmigaaRef2, YteiakclfpfmigaaLaws, YteiakclfpfmigaaPidx, YteiakclfpfmigaaPidx2, YteiakclfpfmigaaLoops, YteiakclfpfmigaaTot, YteiakclfpfmigaaPool1, YteiakclfpfmigaaPool2, YteiakclfpfmigaaPool3.
-/
import Derived.Test.YteiakclfpfmigaaM7
set_option linter.unusedSimpArgs false
set_option linter.unusedVariables false
section
namespace Go.Am
theorem JlA (x : Int) : ∃ k : Nat, J2J .u32 x 15 = (k : Int) ∧ k < 16 := by
  have h : (BitVec.ofInt 32 x &&& BitVec.ofInt 32 15).toNat ≤ 15 := by
    rw [BitVec.toNat_and]
    exact Nat.and_le_right
  refine ⟨(BitVec.ofInt 32 x &&& BitVec.ofInt 32 15).toNat, ?_, by omega⟩
  show (((BitVec.ofInt 32 x &&& BitVec.ofInt 32 15).toNat : Nat) : Int) % 4294967296 = _
  omega
theorem JcT : ∃ v, J19 = some v := by
  have inner : ∀ (k : Nat) (b0 b1 : Vector Int 16), k < 16 → ∀ r : Int, ∃ o, J44 k k b0 b1 (r, 0) = some o ∧ ∃ v, o = .inl (((k + 1 : Nat) : Int), v) := by
    intro k b0 b1 hk r
    refine J2N (f := fun s : Int × Int => J00 k k b0 b1 s.1 s.2) (fun s => ∃ j : Nat, s.2 = j ∧ j ≤ 4) (fun s => (4 - s.2).toNat) _ (fun s ⟨j, hj, h4⟩ => ?_) (r, 0) ⟨0, rfl, by omega⟩
    obtain ⟨x, j'⟩ := s
    simp only at hj
    subst hj
    by_cases hlt : j < 4
    · left
      have e1 : ((j : Nat) : Int) < 4 := by omega
      have e2 : J7h .u32 x 1 = some (x.fdiv (2 ^ (min (1 : Int).toNat IntKind.u32.bits))) := rfl
      by_cases hb : J2J .u32 x 1 = 1
      · exact ⟨⟨_, ((j + 1 : Nat) : Int)⟩, by simp only [J00, e1, decide_true, if_true, hb, beq_self_eq_true, e2, Option.bind_some, J2V (show j < 1000000 by omega)]; rfl, ⟨j + 1, rfl, by omega⟩, by simp; omega⟩
      · have e3 : (J2J .u32 x 1 == 1) = false := by simpa using hb
        exact ⟨⟨_, ((j + 1 : Nat) : Int)⟩, by simp only [J00, e1, decide_true, if_true, e3, Bool.false_eq_true, if_false, e2, Option.bind_some, J2V (show j < 1000000 by omega)]; rfl, ⟨j + 1, rfl, by omega⟩, by simp; omega⟩
    · right
      have e1 : ¬ ((j : Nat) : Int) < 4 := by omega
      exact ⟨.inl (((k + 1 : Nat) : Int), JbY b1 k x), by simp only [J00, e1, decide_false, Bool.false_eq_true, if_false, J1T, J1J, J9g hk, J5f _ k hk, Option.bind_some, Option.map_some, J2V (show k < 1000000 by omega)], _, rfl⟩
  obtain ⟨v, hv, _⟩ := J2N (f := fun s : Int × Vector Int 16 => J0h (Vector.replicate 16 0) s.1 s.2) (fun s => ∃ j : Nat, s.1 = j ∧ j ≤ 16) (fun s => (16 - s.1).toNat) (fun _ => True) (fun s ⟨j, hj, h4⟩ => by
    obtain ⟨j', b1⟩ := s
    simp only at hj
    subst hj
    by_cases hlt : j < 16
    · left
      have e1 : ((j : Nat) : Int) < 16 := by omega
      obtain ⟨o, ho, v, rfl⟩ := inner j (Vector.replicate 16 0) b1 hlt (IntKind.wrap .u32 (j : Int))
      exact ⟨⟨((j + 1 : Nat) : Int), v⟩, by simp only [J0h, e1, decide_true, if_true]; exact ho, ⟨j + 1, rfl, by omega⟩, by simp; omega⟩
    · right
      have e1 : ¬ ((j : Nat) : Int) < 16 := by omega
      exact ⟨b1, by simp only [J0h, e1, decide_false, Bool.false_eq_true, if_false, J1R, Option.map_some], trivial⟩) (0, Vector.replicate 16 0) ⟨0, rfl, by omega⟩
  exact ⟨v, hv⟩
theorem Jf5 {l : List UInt8} {k : Nat} (h : k < l.length) : JbA l (k : Int) = some ((l[k]).toNat : Int) := by
  have e : (0 : Int) ≤ k := by omega
  simp [JbA, e, h]
theorem Jkp (l : List UInt8) (hl : l.length ≤ 1000) : ∃ r, J1t l = some r := by
  obtain ⟨v, hv⟩ := JcT
  obtain ⟨r, hr, _⟩ := J2N (f := fun s : Int × Int => J1e l (l.length : Int) v s.1 s.2) (fun s => ∃ j : Nat, s.2 = j ∧ j ≤ l.length) (fun s => (l.length - s.2).toNat) (fun _ => True) (fun s ⟨j, hj, h4⟩ => by
    obtain ⟨x, j'⟩ := s
    simp only at hj
    subst hj
    by_cases hlt : j < l.length
    · left
      have e1 : ((j : Nat) : Int) < (l.length : Int) := by omega
      have e2 : ∀ z : Int, J7h .u32 z 4 = some (z.fdiv (2 ^ (min (4 : Int).toNat IntKind.u32.bits))) := fun _ => rfl
      have e3 : ∀ z : Int, ∃ y, inb 16 (J2J .u32 z 15) = some () ∧ J6b v (J2J .u32 z 15) = some y := by
        intro z
        obtain ⟨k, hk, hk2⟩ := JlA z
        rw [hk]
        exact ⟨_, J9g hk2, J5f _ k hk2⟩
      obtain ⟨y1, a1, a2⟩ := e3 (J3L .u32 x (IntKind.wrap .u32 (((l[j]).toNat : Nat) : Int)))
      obtain ⟨y2, a3, a4⟩ := e3 (J3L .u32 ((J3L .u32 x (IntKind.wrap .u32 (((l[j]).toNat : Nat) : Int))).fdiv (2 ^ (min (4 : Int).toNat IntKind.u32.bits))) y1)
      exact ⟨⟨_, ((j + 1 : Nat) : Int)⟩, by simp only [J1e, e1, decide_true, if_true, Jf5 hlt, Option.bind_some, e2, a1, a2, a3, a4, J2V (show j < 1000000 by omega)]; rfl, ⟨j + 1, rfl, by omega⟩, by simp; omega⟩
    · right
      have e1 : ¬ ((j : Nat) : Int) < (l.length : Int) := by omega
      exact ⟨_, by simp only [J1e, e1, decide_false, Bool.false_eq_true, if_false, J49, Option.map_some]; rfl, trivial⟩) (4294967295, 0) ⟨0, rfl, by omega⟩
  exact ⟨r, by unfold J1t; rw [hv]; exact hr⟩
theorem J8O (l : List UInt8) (n : Int) {k : Nat} (h1 : 1 ≤ k) (h8 : k ≤ 8) (hl : l.length ≤ 1000) : J2P l n (k : Int) = some (l ++ J17 n k) := by
  have e1 : ¬ ((k : Int) < 1 ∨ 8 < (k : Int)) := by omega
  have e2 : l.length + 8 ≤ 140737488355328 := by omega
  show Jbv l n k = _
  rw [Jbv, if_neg e1, if_pos e2]
  simp
theorem Jdj {a b : List UInt8} (ha : a.length ≤ 1000) (hb : b.length ≤ 1000) : J7a a b = some (a ++ b) := by
  have e : a.length + b.length ≤ 4611686018427387904 := by omega
  simp [J7a, e]
theorem Jds {n : Int} (h0 : 0 ≤ n) (h1 : n ≤ 1000) : J25 [0] n = some (List.replicate n.toNat 0) := by
  show JbR [0] n = _
  have e : (0 : Int) ≤ n ∧ n ≤ 9223372036854775807 ∧ ([0] : List UInt8).length * n.toNat ≤ 140737488355328 := by
    refine ⟨h0, by omega, ?_⟩
    simp; omega
  rw [JbR, if_pos e]
  have : ∀ k : Nat, (List.replicate k ([0] : List UInt8)).flatten = List.replicate k 0 := by
    intro k
    induction k with
    | zero => rfl
    | succ k ih => rw [List.replicate_succ, List.flatten_cons, ih]; rfl
  rw [this]
theorem Jh0 (p : J8) : ∃ b, J2k p = some b ∧ (b = true → ∀ (i : Nat) (h : i < 16), (p.Cells[i]).Data.length ≤ 12) ∧ ((∀ (i : Nat) (h : i < 16), J4r p.LSN p.Cells[i]) → b = true) := by
  refine J2N (f := fun s : Int => JP p.Cells p s) (fun s => ∃ j : Nat, s = j ∧ j ≤ 16 ∧ ∀ (i : Nat) (h : i < 16), i < j → (p.Cells[i]).Data.length ≤ 12) (fun s => (16 - s).toNat)
    (fun b => (b = true → ∀ (i : Nat) (h : i < 16), (p.Cells[i]).Data.length ≤ 12) ∧ ((∀ (i : Nat) (h : i < 16), J4r p.LSN p.Cells[i]) → b = true)) (fun s ⟨j, hj, h4, hc⟩ => ?_) 0 ⟨0, rfl, by omega, fun i h hh => by omega⟩
  subst hj
  by_cases hlt : j < 16
  · have e1 : ((j : Nat) : Int) < 16 := by omega
    have e2 := J5f p.Cells j hlt
    have e3 := J2V (show j < 1000000 by omega)
    have bad : ¬ J4r p.LSN p.Cells[j] → (∀ (i : Nat) (h : i < 16), J4r p.LSN p.Cells[i]) → false = true := fun h1 h2 => (h1 (h2 j hlt)).elim
    by_cases h12 : (((p.Cells[j]).Data.length : Nat) : Int) > 12
    · right
      exact ⟨false, by simp only [JP, e1, decide_true, if_true, e2, Option.bind_some, h12], fun h => (by cases h), bad fun h => by have := h.1; omega⟩
    · have nxt : ∀ (i : Nat) (h : i < 16), i < j + 1 → (p.Cells[i]).Data.length ≤ 12 := by
        intro i hi hij
        by_cases hh : i < j
        · exact hc i hi hh
        · obtain rfl : i = j := by omega
          omega
      by_cases hs : (p.Cells[j]).Set = true
      · by_cases hl : p.LSN = 0
        · right
          exact ⟨false, by simp only [JP, e1, decide_true, if_true, e2, Option.bind_some, h12, decide_false, Bool.false_eq_true, if_false, hs, hl, beq_self_eq_true], fun h => (by cases h), bad fun h => h.2.2 hs hl⟩
        · left
          have e4 : (p.LSN == 0) = false := by simpa using hl
          exact ⟨((j + 1 : Nat) : Int), by simp only [JP, e1, decide_true, if_true, e2, Option.bind_some, h12, decide_false, Bool.false_eq_true, if_false, hs, e4, e3], ⟨j + 1, rfl, by omega, nxt⟩, by omega⟩
      · have hs' : (p.Cells[j]).Set = false := by simpa using hs
        by_cases hd : (p.Cells[j]).Data = []
        · left
          exact ⟨((j + 1 : Nat) : Int), by simp only [JP, e1, decide_true, if_true, e2, Option.bind_some, h12, decide_false, Bool.false_eq_true, if_false, hs', hd, beq_self_eq_true, e3]; rfl, ⟨j + 1, rfl, by omega, nxt⟩, by omega⟩
        · right
          have e4 : ((p.Cells[j]).Data == []) = false := by simpa using hd
          exact ⟨false, by simp only [JP, e1, decide_true, if_true, e2, Option.bind_some, h12, decide_false, Bool.false_eq_true, if_false, hs', e4], fun h => (by cases h), bad fun h => hd (h.2.1 hs')⟩
  · right
    have e1 : ¬ ((j : Nat) : Int) < 16 := by omega
    exact ⟨true, by simp only [JP, e1, decide_false, Bool.false_eq_true, if_false, J3P, Option.map_some], fun _ i h => hc i h (by omega), fun _ => rfl⟩
end Go.Am
end
section
namespace Go.Am
def P32 : Nat := 2197175160
def gb (c : Nat) : Nat := if c % 2 = 1 then c / 2 ^^^ P32 else c / 2
def gN : Nat → Nat → Nat
  | 0, c => c
  | j + 1, c => gN j (gb c)
def sl (b : Nat) : Nat := if b = 1 then P32 else 0
theorem Jb7 (c : Nat) : gb c = c / 2 ^^^ sl (c % 2) := by
  unfold gb sl
  split
  · rfl
  · rw [Nat.xor_zero]
theorem Jko (x y : Nat) : gb (x ^^^ y) = gb x ^^^ gb y := by
  have e1 : (x ^^^ y) / 2 = x / 2 ^^^ y / 2 := by have := @Nat.xor_div_two_pow x y 1; simpa using this
  have e2 : (x ^^^ y) % 2 = x % 2 ^^^ y % 2 := by have := @Nat.xor_mod_two_pow x y 1; simpa using this
  simp only [Jb7, e1, e2]
  have e3 : sl (x % 2 ^^^ y % 2) = sl (x % 2) ^^^ sl (y % 2) := by
    rcases Nat.mod_two_eq_zero_or_one x with h | h <;> rcases Nat.mod_two_eq_zero_or_one y with h' | h' <;> rw [h, h'] <;> decide
  rw [e3]
  ac_rfl
theorem JaH : ∀ (j x y : Nat), gN j (x ^^^ y) = gN j x ^^^ gN j y
  | 0, _, _ => rfl
  | j + 1, x, y => by simp only [gN]; rw [Jko, JaH j]
theorem Jh1 : ∀ (i j x : Nat), gN (i + j) x = gN j (gN i x)
  | 0, j, x => by simp [gN]
  | i + 1, j, x => by rw [Nat.succ_add]; simp only [gN]; exact Jh1 i j _
theorem JeW (c : Nat) : gN 4 c = c / 16 ^^^ (sl (c / 8 % 2) ^^^ gN 1 (sl (c / 4 % 2)) ^^^ gN 2 (sl (c / 2 % 2)) ^^^ gN 3 (sl (c % 2))) := by
  have s1 : gN 4 c = gN 3 (c / 2) ^^^ gN 3 (sl (c % 2)) := by
    rw [← JaH, ← Jb7]; rfl
  have s2 : gN 3 (c / 2) = gN 2 (c / 4) ^^^ gN 2 (sl (c / 2 % 2)) := by
    rw [← JaH, show c / 4 = c / 2 / 2 by omega, ← Jb7]; rfl
  have s3 : gN 2 (c / 4) = gN 1 (c / 8) ^^^ gN 1 (sl (c / 4 % 2)) := by
    rw [← JaH, show c / 8 = c / 4 / 2 by omega, ← Jb7]; rfl
  have s4 : gN 1 (c / 8) = c / 16 ^^^ sl (c / 8 % 2) := by
    rw [show c / 16 = c / 8 / 2 by omega, ← Jb7]; rfl
  rw [s1, s2, s3, s4]
  ac_rfl
theorem Jhz (c : Nat) : gN 4 c = c / 16 ^^^ gN 4 (c % 16) := by
  rw [JeW c, JeW (c % 16)]
  have a0 : c % 16 / 16 = 0 := by omega
  have a1 : c % 16 / 8 % 2 = c / 8 % 2 := by omega
  have a2 : c % 16 / 4 % 2 = c / 4 % 2 := by omega
  have a3 : c % 16 / 2 % 2 = c / 2 % 2 := by omega
  have a4 : c % 16 % 2 = c % 2 := by omega
  rw [a0, a1, a2, a3, a4, Nat.zero_xor]
theorem JgP : P32 < 2 ^ 32 := by decide
theorem JiW {c : Nat} (h : c < 2 ^ 32) : gb c < 2 ^ 32 := by
  unfold gb
  split
  · exact Nat.xor_lt_two_pow (by omega) JgP
  · omega
theorem JaV : ∀ {j c : Nat}, c < 2 ^ 32 → gN j c < 2 ^ 32
  | 0, _, h => h
  | j + 1, _, h => JaV (j := j) (JiW h)
theorem J7n (n : Nat) (h : n < 2 ^ 32) : IntKind.wrap .u32 (n : Int) = (n : Int) := by
  rw [show IntKind.wrap .u32 (n : Int) = (n : Int) % 4294967296 from rfl]; omega
theorem Jbn {n : Nat} (h : n < 2 ^ 32) : (BitVec.ofInt 32 (n : Int)).toNat = n := by
  rw [BitVec.toNat_ofInt]; omega
theorem Jav {x y : Nat} (hx : x < 2 ^ 32) (hy : y < 2 ^ 32) : J3L .u32 (x : Int) (y : Int) = ((x ^^^ y : Nat) : Int) := by
  show IntKind.wrap .u32 (((BitVec.ofInt 32 (x : Int) ^^^ BitVec.ofInt 32 (y : Int)).toNat : Nat) : Int) = _
  rw [BitVec.toNat_xor, Jbn hx, Jbn hy, J7n _ (Nat.xor_lt_two_pow hx hy)]
theorem JdH {x : Nat} (hx : x < 2 ^ 32) (k : Nat) (hk : k ≤ 20) : J2J .u32 (x : Int) ((2 ^ k - 1 : Nat) : Int) = ((x % 2 ^ k : Nat) : Int) := by
  show IntKind.wrap .u32 (((BitVec.ofInt 32 (x : Int) &&& BitVec.ofInt 32 ((2 ^ k - 1 : Nat) : Int)).toNat : Nat) : Int) = _
  have h2 : 2 ^ k - 1 < 2 ^ 32 := by
    have : (2 : Nat) ^ k ≤ 2 ^ 20 := Nat.pow_le_pow_right (by omega) hk
    omega
  rw [BitVec.toNat_and, Jbn hx, Jbn h2, Nat.and_two_pow_sub_one_eq_mod, J7n _ (Nat.lt_of_le_of_lt (Nat.mod_le _ _) hx)]
theorem Jmg {x : Nat} (hx : x < 2 ^ 32) : J2J .u32 (x : Int) 1 = ((x % 2 : Nat) : Int) := JdH hx 1 (by omega)
theorem Jla {x : Nat} (hx : x < 2 ^ 32) : J2J .u32 (x : Int) 15 = ((x % 16 : Nat) : Int) := JdH hx 4 (by omega)
theorem Jm6 (x : Nat) : J7h .u32 (x : Int) 1 = some ((x / 2 : Nat) : Int) := by
  show some ((x : Int).fdiv 2) = _
  rw [Int.fdiv_eq_ediv_of_nonneg _ (by omega)]; simp
theorem Jmc (x : Nat) : J7h .u32 (x : Int) 4 = some ((x / 16 : Nat) : Int) := by
  show some ((x : Int).fdiv 16) = _
  rw [Int.fdiv_eq_ediv_of_nonneg _ (by omega)]; simp
def Jdg : List UInt8 → Nat → Nat
  | [], c => c
  | b :: r, c => Jdg r (gN 8 (c ^^^ b.toNat))
theorem J9k (b : UInt8) : b.toNat < 2 ^ 32 := by have := UInt8.toNat_lt b; omega
theorem Jf6 : ∀ {l : List UInt8} {c : Nat}, c < 2 ^ 32 → Jdg l c < 2 ^ 32
  | [], _, h => h
  | b :: r, _, h => Jf6 (l := r) (JaV (Nat.xor_lt_two_pow h (J9k b)))
def crc (l : List UInt8) : Nat := Jdg l 4294967295 ^^^ 4294967295
theorem Jkt (l : List UInt8) : crc l < 2 ^ 32 := Nat.xor_lt_two_pow (Jf6 (by decide)) (by decide)
theorem Jit {x : Nat} (hx : x < 2 ^ 32) : Jhl .u32 (x : Int) = ((x ^^^ 4294967295 : Nat) : Int) := by
  show IntKind.wrap .u32 (((BitVec.ofInt 32 4294967295 ^^^ BitVec.ofInt 32 (x : Int)).toNat : Nat) : Int) = _
  rw [BitVec.toNat_xor, Jbn hx, show (4294967295 : Int) = ((4294967295 : Nat) : Int) by rfl, Jbn (by decide), Nat.xor_comm, J7n _ (Nat.xor_lt_two_pow hx (by decide))]
theorem Jb9 : ∃ v, J19 = some v ∧ ∀ (i : Nat) (h : i < 16), v[i] = ((gN 4 i : Nat) : Int) := by
  have inner : ∀ (k : Nat) (b0 b1 : Vector Int 16), k < 16 → ∀ (m j c : Nat), c < 2 ^ 32 → j + m = 4 → J07 (fun s : Int × Int => J00 k k b0 b1 s.1 s.2) ((c : Int), (j : Int)) = some (.inl (((k + 1 : Nat) : Int), JbY b1 k ((gN m c : Nat) : Int))) := by
    intro k b0 b1 hk m
    induction m with
    | zero =>
      intro j c hc hj
      obtain rfl : j = 4 := by omega
      refine J2I ?_
      have e1 : ¬ (((4 : Nat) : Nat) : Int) < 4 := by omega
      simp only [J00, e1, decide_false, Bool.false_eq_true, if_false, J1T, J1J, J9g hk, J5f _ k hk, Option.bind_some, Option.map_some, J2V (show k < 1000000 by omega), gN]
    | succ m ih =>
      intro j c hc hj
      have e1 : ((j : Nat) : Int) < 4 := by omega
      refine (J43 (s' := (((gb c : Nat) : Int), ((j + 1 : Nat) : Int))) ?_).trans (ih (j + 1) (gb c) (JiW hc) (by omega))
      have e2 := Jmg hc
      simp only [J00, e1, decide_true, if_true, e2, Jm6, Option.bind_some, J2V (show j < 1000000 by omega)]
      unfold gb
      by_cases hb : c % 2 = 1
      · simp only [hb, if_true, Int.natCast_one, beq_self_eq_true]
        rw [show (2197175160 : Int) = ((P32 : Nat) : Int) by rfl, Jav (by omega) JgP]
      · have e3 : (((c % 2 : Nat) : Int) == 1) = false := by simp; omega
        simp only [hb, if_false, e3, Bool.false_eq_true]
  refine J2N (f := fun s : Int × Vector Int 16 => J0h (Vector.replicate 16 0) s.1 s.2) (fun s => ∃ j : Nat, s.1 = j ∧ j ≤ 16 ∧ ∀ (i : Nat) (h : i < 16), i < j → s.2[i] = ((gN 4 i : Nat) : Int)) (fun s => (16 - s.1).toNat) (fun v => ∀ (i : Nat) (h : i < 16), v[i] = ((gN 4 i : Nat) : Int)) (fun s ⟨j, hj, h4, hv⟩ => ?_) (0, Vector.replicate 16 0) ⟨0, rfl, by omega, fun i h hh => by omega⟩
  obtain ⟨j', b1⟩ := s
  simp only at hj hv
  subst hj
  by_cases hlt : j < 16
  · left
    have e1 : ((j : Nat) : Int) < 16 := by omega
    have ho := inner j (Vector.replicate 16 0) b1 hlt 4 0 j (by omega) (by omega)
    refine ⟨⟨((j + 1 : Nat) : Int), JbY b1 j ((gN 4 j : Nat) : Int)⟩, by simp only [J0h, e1, decide_true, if_true, J7n j (by omega)]; exact ho, ⟨j + 1, rfl, by omega, fun i h hh => ?_⟩, by simp; omega⟩
    simp only [JbY, Int.toNat_natCast, Vector.getElem_setIfInBounds]
    by_cases hij : j = i
    · subst hij; simp
    · rw [if_neg hij]; exact hv i h (by omega)
  · right
    obtain rfl : j = 16 := by omega
    have e1 : ¬ (((16 : Nat) : Nat) : Int) < 16 := by omega
    exact ⟨b1, by simp only [J0h, e1, decide_false, Bool.false_eq_true, if_false, J1R, Option.map_some], fun i h => hv i h h⟩
theorem JhZ (l : List UInt8) (hl : l.length ≤ 100000) : J1t l = some ((crc l : Nat) : Int) := by
  obtain ⟨v, hv, ht⟩ := Jb9
  have outer : ∀ (m j c : Nat), c < 2 ^ 32 → j + m = l.length → J07 (fun s : Int × Int => J1e l (l.length : Int) v s.1 s.2) ((c : Int), (j : Int)) = some (((Jdg (l.drop j) c ^^^ 4294967295 : Nat) : Int)) := by
    intro m
    induction m with
    | zero =>
      intro j c hc hj
      obtain rfl : j = l.length := by omega
      refine J2I ?_
      have e1 : ¬ ((l.length : Nat) : Int) < ((l.length : Nat) : Int) := by omega
      simp only [J1e, e1, decide_false, Bool.false_eq_true, if_false, J49, Option.map_some, Jit hc, List.drop_length, Jdg]
    | succ m ih =>
      intro j c hc hj
      have hlt : j < l.length := by omega
      have e1 : ((j : Nat) : Int) < ((l.length : Nat) : Int) := by omega
      have hx := Nat.xor_lt_two_pow hc (J9k l[j])
      have step : ∀ x : Nat, x < 2 ^ 32 → inb 16 (J2J .u32 (x : Int) 15) = some () ∧ J6b v (J2J .u32 (x : Int) 15) = some ((gN 4 (x % 16) : Nat) : Int) ∧ J3L .u32 ((x / 16 : Nat) : Int) ((gN 4 (x % 16) : Nat) : Int) = ((gN 4 x : Nat) : Int) := by
        intro x hx
        have h16 : x % 16 < 16 := by omega
        rw [Jla hx]
        refine ⟨J9g h16, by rw [J5f _ _ h16, ht _ h16], ?_⟩
        rw [Jav (by omega) (JaV (by omega)), ← Jhz]
      refine (J43 (s' := (((gN 8 (c ^^^ (l[j]).toNat) : Nat) : Int), ((j + 1 : Nat) : Int))) ?_).trans ((ih (j + 1) _ (JaV hx) (by omega)).trans ?_)
      · obtain ⟨a1, a2, a3⟩ := step _ hx
        obtain ⟨b1, b2, b3⟩ := step (gN 4 (c ^^^ (l[j]).toNat)) (JaV hx)
        simp only [J1e, e1, decide_true, if_true, Jf5 hlt, Option.bind_some, J7n _ (J9k l[j]), Jav hc (J9k l[j]), Jmc, a1, a2, a3, b1, b2, b3, J2V (show j < 1000000 by omega)]
        rw [← Jh1 4 4]
      · rw [List.drop_eq_getElem_cons hlt]
        rfl
  unfold J1t
  rw [hv]
  exact outer l.length 0 4294967295 (by decide) (by omega)
end Go.Am
end
section
namespace Go.Am
end Go.Am
end
section
namespace Go.Am
def blk : List UInt8 := List.replicate 256 0
end Go.Am
end
section
namespace Go.Am
end Go.Am
end
section
namespace Go.Am
def J89 (c : Jc) : List UInt8 := J17 (if c.Set then (c.Data.length : Int) else 255) 1 ++ c.Data ++ List.replicate (12 - c.Data.length) 0
theorem Jgd {c : Jc} (h : c.Data.length ≤ 12) : (J89 c).length = 13 := by
  simp only [J89, List.length_append, J2L, List.length_replicate]; omega
theorem Jgc (b : T_page_builder) (c : Jc) (hc : c.Data.length ≤ 12) (hb : b.s_.length ≤ 300) : J1o b c = some ⟨b.s_ ++ J89 c⟩ := by
  have go : ∀ x : Int, J15 x b c = some ⟨b.s_ ++ (J17 x 1 ++ c.Data ++ List.replicate (12 - c.Data.length) 0)⟩ := by
    intro x
    have e0 : IntKind.wrap .i64 (12 - ((c.Data.length : Nat) : Int)) = ((12 - c.Data.length : Nat) : Int) := by rw [J5C (by omega) (by omega)]; omega
    have e1 := J8O b.s_ x (k := 1) (by omega) (by omega) (by omega)
    have e2 : J7a (b.s_ ++ J17 x 1) c.Data = some (b.s_ ++ J17 x 1 ++ c.Data) := Jdj (by rw [List.length_append, J2L]; omega) (by omega)
    have e3 := Jds (n := ((12 - c.Data.length : Nat) : Int)) (by omega) (by omega)
    rw [Int.toNat_natCast] at e3
    have e4 : J7a (b.s_ ++ J17 x 1 ++ c.Data) (List.replicate (12 - c.Data.length) 0) = some (b.s_ ++ J17 x 1 ++ c.Data ++ List.replicate (12 - c.Data.length) 0) := Jdj (by simp only [List.length_append, J2L]; omega) (by simp; omega)
    unfold J15
    rw [show (1 : Int) = ((1 : Nat) : Int) by rfl, e1, Option.bind_some, e2, Option.bind_some, e0, e3, Option.bind_some, e4, Option.bind_some]
    simp only [List.append_assoc]
  unfold J1o J89
  cases hs : c.Set with
  | true => simp only [if_true]; exact go _
  | false => simp only [Bool.false_eq_true, if_false]; exact go _
end Go.Am
end
section
namespace Go.Am
def J5K (l : List Jc) : List UInt8 := (l.map J89).flatten
theorem J7I : ∀ {l : List Jc}, (∀ c ∈ l, c.Data.length ≤ 12) → (J5K l).length = 13 * l.length
  | [], _ => rfl
  | c :: l, h => by
    have h1 := Jgd (h c (by simp))
    have h2 := J7I (l := l) fun d hd => h d (by simp [hd])
    simp only [J5K, List.map_cons, List.flatten_cons, List.length_append, List.length_cons] at h2 ⊢
    omega
theorem Jei (l : List Jc) (c : Jc) : J5K (l ++ [c]) = J5K l ++ J89 c := by simp [J5K]
def J3W (p : J8) : List UInt8 := J17 p.LSN 8 ++ J17 p.ID 4 ++ J5K p.Cells.toList ++ List.replicate 24 0
theorem JeD {p : J8} (hp : J4D p) : ∃ c, J1t (J3W p) = some c ∧ J1Z p = some (J3W p ++ J17 (IntKind.wrap .i64 c) 4 ++ J17 p.LSN 8, 0) := by
  have hd : ∀ c ∈ p.Cells.toList, c.Data.length ≤ 12 := by
    intro c hc
    obtain ⟨i, hi, rfl⟩ := List.getElem_of_mem hc
    have h16 : i < 16 := by simpa using hi
    have := (hp.cells i h16).1
    simpa using this
  have loop := J2N (f := fun s : Int × T_page_builder => J1U p.Cells p s.1 s.2) (fun s => ∃ j : Nat, s.1 = j ∧ j ≤ 16 ∧ s.2.s_ = J17 p.LSN 8 ++ J17 p.ID 4 ++ J5K (p.Cells.toList.take j)) (fun s => (16 - s.1).toNat)
    (fun r => ∃ c, J1t (J3W p) = some c ∧ r = (J3W p ++ J17 (IntKind.wrap .i64 c) 4 ++ J17 p.LSN 8, 0)) (fun s ⟨j, hj, h4, ht⟩ => by
    obtain ⟨j', b⟩ := s
    simp only at hj ht
    subst hj
    have hl : (J5K (p.Cells.toList.take j)).length = 13 * j := by
      rw [J7I fun c hc => hd c (List.mem_of_mem_take hc)]
      simp; omega
    have hbl : b.s_.length = 12 + 13 * j := by rw [ht]; simp only [List.length_append, J2L, hl]
    by_cases hlt : j < 16
    · left
      have e1 : ((j : Nat) : Int) < 16 := by omega
      have e2 := Jgc b p.Cells[j] (hp.cells j hlt).1 (by omega)
      have e3 : p.Cells.toList.take (j + 1) = p.Cells.toList.take j ++ [p.Cells[j]] := by
        rw [List.take_add_one, List.getElem?_eq_getElem (by simpa using hlt)]
        simp
      exact ⟨⟨((j + 1 : Nat) : Int), ⟨b.s_ ++ J89 p.Cells[j]⟩⟩, by simp only [J1U, e1, decide_true, if_true, J5f _ j hlt, Option.bind_some, e2, J2V (show j < 1000000 by omega)], ⟨j + 1, rfl, by omega, by show b.s_ ++ _ = _; rw [ht, e3, Jei]; simp only [List.append_assoc]⟩, by simp; omega⟩
    · right
      obtain rfl : j = 16 := by omega
      have e1 : ¬ (((16 : Nat) : Nat) : Int) < 16 := by omega
      have e5 : p.Cells.toList.take 16 = p.Cells.toList := List.take_of_length_le (by simp)
      rw [e5] at ht
      have a0 : IntKind.wrap .i64 (244 - ((b.s_.length : Nat) : Int)) = 24 := by rw [hbl, J5C (by omega) (by omega)]; omega
      have a1 : J25 [0] 24 = some (List.replicate 24 0) := Jds (n := 24) (by omega) (by omega)
      have a6 : b.s_ ++ List.replicate 24 0 = J3W p := by rw [ht]; rfl
      have a7 : (J3W p).length = 244 := by rw [← a6]; simp [hbl]
      have a2 : J7a b.s_ (List.replicate 24 0) = some (J3W p) := by rw [← a6]; exact Jdj (by omega) (by simp)
      obtain ⟨r, a3⟩ := Jkp (J3W p) (by omega)
      have a4 := J8O (J3W p) (IntKind.wrap .i64 r) (k := 4) (by omega) (by omega) (by omega)
      have a5 := J8O (J3W p ++ J17 (IntKind.wrap .i64 r) 4) p.LSN (k := 8) (by omega) (by omega) (by simp [a7, J2L])
      refine ⟨_, ?_, r, a3, rfl⟩
      simp only [J1U, e1, decide_false, Bool.false_eq_true, if_false, J4m, a0, a1, a2, a3, Option.bind_some]
      rw [show (4 : Int) = ((4 : Nat) : Int) by rfl, a4, Option.bind_some, show (8 : Int) = ((8 : Nat) : Int) by rfl, a5]
      rfl) (0, ⟨J17 p.LSN 8 ++ J17 p.ID 4⟩) ⟨0, rfl, by omega, by simp [J5K]⟩
  obtain ⟨r, hr, c, hc, rfl⟩ := loop
  refine ⟨c, hc, ?_⟩
  obtain ⟨d, e2, _, hd2⟩ := Jh0 p
  have hd3 := hd2 hp.cells
  subst hd3
  have e1 : J1f p = some true := by
    have i0 := hp.id0; have i1 := hp.id1; have l0 := hp.lsn0; have l1 := hp.lsn1
    simp [J1f, J2X, i0, i1, l0, l1]
  have a1 := J8O [] p.LSN (k := 8) (by omega) (by omega) (by simp)
  have a2 := J8O ([] ++ J17 p.LSN 8) p.ID (k := 4) (by omega) (by omega) (by simp [J2L])
  unfold J1Z
  simp only [e1, e2, Option.bind_some, if_true]
  rw [show (8 : Int) = ((8 : Nat) : Int) by rfl, a1, Option.bind_some, show (4 : Int) = ((4 : Nat) : Int) by rfl, a2, Option.bind_some, List.nil_append]
  exact hr
end Go.Am
end
section
namespace Go.Am
theorem Jij {p : J8} (hp : J4D p) : (J3W p).length = 244 := by
  have hd : ∀ c ∈ p.Cells.toList, c.Data.length ≤ 12 := by
    intro c hc
    obtain ⟨i, hi, rfl⟩ := List.getElem_of_mem hc
    have h16 : i < 16 := by simpa using hi
    have := (hp.cells i h16).1
    simpa using this
  unfold J3W
  simp only [List.length_append, J2L, List.length_replicate]
  rw [J7I hd]
  simp
end Go.Am
end
section
namespace Go.Am
end Go.Am
end
section
namespace Go.Am
end Go.Am
end
section
namespace Go.Am
def JfG (p : J8) : Prop := ∀ (i : Nat) (h : i < 16), J4r p.LSN p.Cells[i]
theorem JgA (p : J8) : ∃ b, J2k p = some b ∧ (b = true ↔ JfG p) := by
  refine J2N (f := fun s : Int => JP p.Cells p s) (fun s => ∃ j : Nat, s = j ∧ j ≤ 16 ∧ ∀ (i : Nat) (h : i < 16), i < j → J4r p.LSN p.Cells[i]) (fun s => (16 - s).toNat)
    (fun b => b = true ↔ JfG p) (fun s ⟨j, hj, h4, hc⟩ => ?_) 0 ⟨0, rfl, by omega, fun i h hh => by omega⟩
  subst hj
  by_cases hlt : j < 16
  · have e1 : ((j : Nat) : Int) < 16 := by omega
    have e2 := J5f p.Cells j hlt
    have e3 := J2V (show j < 1000000 by omega)
    have bad : ¬ J4r p.LSN p.Cells[j] → (false = true ↔ JfG p) := fun h1 => ⟨fun h => (by cases h), fun h2 => (h1 (h2 j hlt)).elim⟩
    have nxt : J4r p.LSN p.Cells[j] → ∀ (i : Nat) (h : i < 16), i < j + 1 → J4r p.LSN p.Cells[i] := by
      intro hok i hi hij
      by_cases hh : i < j
      · exact hc i hi hh
      · obtain rfl : i = j := by omega
        exact hok
    by_cases h12 : (((p.Cells[j]).Data.length : Nat) : Int) > 12
    · right
      exact ⟨false, by simp only [JP, e1, decide_true, if_true, e2, Option.bind_some, h12], bad fun h => by have := h.1; omega⟩
    · by_cases hs : (p.Cells[j]).Set = true
      · by_cases hl : p.LSN = 0
        · right
          exact ⟨false, by simp only [JP, e1, decide_true, if_true, e2, Option.bind_some, h12, decide_false, Bool.false_eq_true, if_false, hs, hl, beq_self_eq_true], bad fun h => h.2.2 hs hl⟩
        · left
          have e4 : (p.LSN == 0) = false := by simpa using hl
          exact ⟨((j + 1 : Nat) : Int), by simp only [JP, e1, decide_true, if_true, e2, Option.bind_some, h12, decide_false, Bool.false_eq_true, if_false, hs, e4, e3], ⟨j + 1, rfl, by omega, nxt ⟨by omega, (fun h => by rw [hs] at h; cases h), fun _ => hl⟩⟩, by omega⟩
      · have hs' : (p.Cells[j]).Set = false := by simpa using hs
        by_cases hd : (p.Cells[j]).Data = []
        · left
          exact ⟨((j + 1 : Nat) : Int), by simp only [JP, e1, decide_true, if_true, e2, Option.bind_some, h12, decide_false, Bool.false_eq_true, if_false, hs', hd, beq_self_eq_true, e3]; rfl, ⟨j + 1, rfl, by omega, nxt ⟨by omega, fun _ => hd, fun h => (hs h).elim⟩⟩, by omega⟩
        · right
          have e4 : ((p.Cells[j]).Data == []) = false := by simpa using hd
          exact ⟨false, by simp only [JP, e1, decide_true, if_true, e2, Option.bind_some, h12, decide_false, Bool.false_eq_true, if_false, hs', e4], bad fun h => hd (h.2.1 hs')⟩
  · right
    have e1 : ¬ ((j : Nat) : Int) < 16 := by omega
    exact ⟨true, by simp only [JP, e1, decide_false, Bool.false_eq_true, if_false, J3P, Option.map_some], fun _ i h => hc i h (by omega), fun _ => rfl⟩
end Go.Am
end
section
namespace Go.Am
theorem Jfx (p : J8) : ∃ b, J1f p = some b ∧ (b = true ↔ (0 ≤ p.ID ∧ p.ID < 64 ∧ 0 ≤ p.LSN ∧ p.LSN ≤ 1099511627776)) := by
  unfold J1f J2X
  by_cases h1 : p.ID ≥ 0
  · by_cases h2 : p.ID < 64
    · by_cases h3 : p.LSN ≥ 0
      · refine ⟨decide (p.LSN ≤ 1099511627776), by simp only [h1, h2, h3, decide_true, if_true, Option.bind_some], ?_⟩
        rw [decide_eq_true_eq]
        exact ⟨fun h => ⟨h1, h2, h3, h⟩, fun h => h.2.2.2⟩
      · exact ⟨false, by simp only [h1, h2, h3, decide_true, decide_false, if_true, Bool.false_eq_true, if_false, Option.bind_some], by simp; omega⟩
    · exact ⟨false, by simp only [h1, h2, decide_true, decide_false, if_true, Bool.false_eq_true, if_false, Option.bind_some], by simp; omega⟩
  · exact ⟨false, by simp only [h1, decide_false, Bool.false_eq_true, if_false, Option.bind_some], by simp; omega⟩
theorem JgV (p : J8) : ∃ b, J2Z p = some b ∧ (b = true ↔ J4D p) := by
  obtain ⟨a, h1, h2⟩ := Jfx p
  obtain ⟨b, h3, h4⟩ := JgA p
  unfold J2Z
  simp only [h1, h3, Option.bind_some]
  cases a with
  | false =>
    refine ⟨false, rfl, fun h => (by cases h), fun h => ?_⟩
    have := h2.2 ⟨h.id0, h.id1, h.lsn0, h.lsn1⟩
    cases this
  | true =>
    obtain ⟨i0, i1, l0, l1⟩ := h2.1 rfl
    refine ⟨b, rfl, fun h => ⟨i0, i1, l0, l1, h4.1 h⟩, fun h => h4.2 h.cells⟩
def JlF (p : J8) : List UInt8 := J3W p ++ J17 ((crc (J3W p) : Nat) : Int) 4 ++ J17 p.LSN 8
theorem J70 {p : J8} (hp : J4D p) : J1Z p = some (JlF p, 0) := by
  obtain ⟨c, h1, h2⟩ := JeD hp
  rw [JhZ _ (by rw [Jij hp]; omega)] at h1
  injection h1 with h1
  subst h1
  have hc := Jkt (J3W p)
  rw [J5C (by omega) (by omega)] at h2
  exact h2
end Go.Am
end
section
namespace Go.Am
set_option maxRecDepth 16000
theorem bind_none {α β : Type} {o : Option α} {f : α → Option β} (h : Option.bind o f = none) (h2 : ∀ x, o = some x → f x ≠ none) : o = none := by
  cases o with
  | none => rfl
  | some x => exact (h2 x rfl h).elim
end Go.Am
end
section
namespace Go.Am
set_option maxRecDepth 16000
end Go.Am
end
section
namespace Go.Am
set_option maxRecDepth 16000
theorem J7t {α : Type} {l : List α} {k : Nat} (h : k < l.length) : idx l (k : Int) = some l[k] := by
  rw [Jjh, List.getElem?_eq_getElem h]
end Go.Am
end
section
namespace Go.Am
set_option maxRecDepth 16000
end Go.Am
end
section
namespace Go.Am
set_option maxRecDepth 16000
theorem Jgy {α ρ : Type} {f : Int → Option (Int ⊕ ρ)} {l : List α} (p : α → Bool) (hit : Nat → ρ) (out : ρ) (hl : l.length < 1000000)
    (h1 : ∀ (k : Nat) (h : k < l.length), f (k : Int) = some (if p l[k] = true then .inr (hit k) else .inl ((k + 1 : Nat) : Int))) (h2 : f (l.length : Int) = some (.inr out)) :
    J07 f 0 = some (match l.findIdx? p with
      | some k => hit k
      | none => out) := by
  have key : ∀ (n k : Nat), k + n = l.length → J07 f (k : Int) = some (match (l.drop k).findIdx? p with
      | some j => hit (k + j)
      | none => out) := by
    intro n
    induction n with
    | zero =>
      intro k hk
      obtain rfl : k = l.length := by omega
      rw [J2I h2]
      simp
    | succ n ih =>
      intro k hk
      have hlt : k < l.length := by omega
      have e := h1 k hlt
      rw [List.drop_eq_getElem_cons hlt, List.findIdx?_cons]
      by_cases hp : p l[k] = true
      · rw [if_pos hp] at e
        rw [J2I e, if_pos hp]
        rfl
      · rw [if_neg hp] at e
        rw [J43 e, ih (k + 1) (by omega), if_neg hp]
        cases (l.drop (k + 1)).findIdx? p with
        | none => rfl
        | some j => simp only [Option.map_some]; congr 2; omega
  have := key l.length 0 (by omega)
  simpa using this
theorem Ji8 {ρ : Type} (c : Bool) (a b : ρ) : (if c = true then some a else some b) = some (if c = true then a else b) := by cases c <;> rfl
end Go.Am
end
section
namespace Go.Am
set_option maxRecDepth 16000
def Tot {ρ : Type} (o : Option ρ) (Q : ρ → Prop) : Prop := ∃ r, o = some r ∧ Q r
theorem Tot.bind {α ρ : Type} {o : Option α} {f : α → Option ρ} {Q : α → Prop} {R : ρ → Prop} (h : Tot o Q) (h2 : ∀ r, Q r → Tot (f r) R) : Tot (o.bind f) R := by
  obtain ⟨r, rfl, hq⟩ := h
  exact h2 r hq
theorem Tot.some {ρ : Type} {r : ρ} {Q : ρ → Prop} (h : Q r) : Tot (some r) Q := ⟨r, rfl, h⟩
theorem Tot.mono {ρ : Type} {o : Option ρ} {Q R : ρ → Prop} (h : Tot o Q) (h2 : ∀ r, Q r → R r) : Tot o R := by
  obtain ⟨r, e, hq⟩ := h
  exact ⟨r, e, h2 r hq⟩
theorem Tot.map {α ρ : Type} {o : Option α} {f : α → ρ} {Q : α → Prop} {R : ρ → Prop} (h : Tot o Q) (h2 : ∀ r, Q r → R (f r)) : Tot (Option.map f o) R := by
  obtain ⟨r, rfl, hq⟩ := h
  exact ⟨f r, rfl, h2 r hq⟩
section
end
end Go.Am
end
section
namespace Go.Am
set_option maxRecDepth 16000
set_option maxHeartbeats 2000000
theorem Jik {ρ : Type} {f : Int → Option (Int ⊕ ρ)} {n : Nat} (q : Nat → Prop) (bad out : ρ) (hn : n < 1000000)
    (h1 : ∀ (k : Nat), k < n → (q k ∧ f (k : Int) = some (.inl ((k + 1 : Nat) : Int))) ∨ (¬ q k ∧ f (k : Int) = some (.inr bad))) (h2 : f (n : Int) = some (.inr out)) :
    (J07 f 0 = some out ∧ ∀ k, k < n → q k) ∨ (J07 f 0 = some bad ∧ ¬ ∀ k, k < n → q k) := by
  have key : ∀ (m k : Nat), k + m = n → (∀ j, j < k → q j) → (J07 f (k : Int) = some out ∧ ∀ k, k < n → q k) ∨ (J07 f (k : Int) = some bad ∧ ¬ ∀ k, k < n → q k) := by
    intro m
    induction m with
    | zero =>
      intro k hk hq
      obtain rfl : k = n := by omega
      exact .inl ⟨J2I h2, hq⟩
    | succ m ih =>
      intro k hk hq
      rcases h1 k (by omega) with ⟨a, e⟩ | ⟨a, e⟩
      · rw [J43 e]
        exact ih (k + 1) (by omega) fun j hj => by
          rcases Nat.lt_succ_iff_lt_or_eq.1 hj with h | rfl
          · exact hq j h
          · exact a
      · exact .inr ⟨J2I e, fun h => a (h k (by omega))⟩
  exact key n 0 (by omega) fun j hj => absurd hj (by omega)
def J0w (l : List T_api_Frame) (id : Int) : Option Nat := l.findIdx? fun f => f.Page.ID == id
def J5Y (o : Option Nat) : Int := match o with
  | some k => (k : Int)
  | none => -1
theorem J1N {p : T_api_Pool} (hl : p.Frames.length < 1000000) (id : Int) : J1r p id = some (J5Y (J0w p.Frames id)) := by
  have e : JD p.Frames id = _ := Jgy (f := fun s => Jt p.Frames (p.Frames.length : Int) id s) (l := p.Frames) (fun f => f.Page.ID == id) (fun k => (k : Int)) (-1) hl
    (fun k hk => by
      have e1 : ((k : Nat) : Int) < (p.Frames.length : Int) := by omega
      simp only [Jt, e1, decide_true, if_true, J7t hk, Option.bind_some, J3H, Ji8, J2V (show k < 1000000 by omega)])
    (by
      have e1 : ¬ ((p.Frames.length : Nat) : Int) < (p.Frames.length : Int) := by omega
      simp only [Jt, e1, decide_false, Bool.false_eq_true, if_false, JO, Option.map_some])
  simp only [J1r, e, Option.bind_some, J0w, J5Y]
  all_goals (cases p.Frames.findIdx? (fun f => f.Page.ID == id) <;> rfl)
structure J7k (f : T_api_Frame) : Prop where
  page : J4D f.Page
  d1 : f.Dirty = true → 1 ≤ f.Rec ∧ f.Rec ≤ f.Page.LSN
  d0 : f.Dirty = false → f.Rec = 0
structure J2p (p : T_api_Pool) : Prop where
  s1 : 1 ≤ p.Size
  s2 : p.Size ≤ 64
  n : ((p.Frames.length : Nat) : Int) ≤ p.Size
  h0 : 0 ≤ p.Hand
  h1 : p.Hand < J6e 1 ((p.Frames.length : Nat) : Int)
  fr : ∀ (k : Nat) (h : k < p.Frames.length), J7k p.Frames[k]
  uq : ∀ (i j : Nat) (hi : i < p.Frames.length) (hj : j < p.Frames.length), p.Frames[i].Page.ID = p.Frames[j].Page.ID → i = j
theorem J6q {l : List T_api_Frame} {id : Int} {k : Nat} (h : J0w l id = some k) : ∃ hk : k < l.length, l[k].Page.ID = id := by
  obtain ⟨hk, h3, _⟩ := List.findIdx?_eq_some_iff_getElem.1 h
  exact ⟨hk, by simpa using h3⟩
theorem J6s {l : List T_api_Frame} {id : Int} (h : J0w l id = none) {k : Nat} (hk : k < l.length) : l[k].Page.ID ≠ id := by
  unfold J0w at h
  rw [List.findIdx?_eq_none_iff] at h
  simpa using h _ (List.getElem_mem hk)
theorem Jdy {l : List T_api_Frame} {k : Nat} (hk : k < l.length) : ∃ j, J0w l l[k].Page.ID = some j ∧ j ≤ k := by
  cases h : J0w l l[k].Page.ID with
  | none => exact absurd rfl (J6s h hk)
  | some j =>
    refine ⟨j, rfl, ?_⟩
    obtain ⟨hj, h3, h4⟩ := List.findIdx?_eq_some_iff_getElem.1 h
    rcases Nat.lt_or_ge k j with hlt | hge
    · exact absurd (h4 k hlt) (by simp)
    · exact hge
theorem Jaq {l : List T_api_Frame} (uq : ∀ (i j : Nat) (hi : i < l.length) (hj : j < l.length), l[i].Page.ID = l[j].Page.ID → i = j) {k : Nat} (hk : k < l.length) : J0w l l[k].Page.ID = some k := by
  obtain ⟨j, hj, _⟩ := Jdy hk
  obtain ⟨hj', e⟩ := J6q hj
  rw [hj, uq j k hj' hk e]
def Rq (l : List T_api_Frame) (k : Nat) : Prop := ∃ h : k < l.length, J7k l[k] ∧ J0w l l[k].Page.ID = some k
theorem Jlz {l : List T_api_Frame} (h : ∀ k, k < l.length → Rq l k) : ∀ (i j : Nat) (hi : i < l.length) (hj : j < l.length), l[i].Page.ID = l[j].Page.ID → i = j := by
  intro i j hi hj e
  obtain ⟨_, _, h1⟩ := h i hi
  obtain ⟨_, _, h2⟩ := h j hj
  rw [e, h2] at h1
  injection h1 with h1
  exact h1.symm
theorem JfR {p : T_api_Pool} (s1 : 1 ≤ p.Size) (s2 : p.Size ≤ 64) (n : ((p.Frames.length : Nat) : Int) ≤ p.Size) (h0 : 0 ≤ p.Hand) (h1 : p.Hand < J6e 1 ((p.Frames.length : Nat) : Int)) :
    (∀ k, k < p.Frames.length → Rq p.Frames k) ↔ J2p p := by
  constructor
  · intro h
    exact ⟨s1, s2, n, h0, h1, fun k hk => let ⟨_, a, _⟩ := h k hk; a, Jlz h⟩
  · intro h k hk
    exact ⟨hk, h.fr k hk, Jaq h.uq hk⟩
theorem JbE (p : T_api_Pool) : ∃ b, J0V p = some b ∧ (b = true ↔ J2p p) := by
  unfold J0V
  by_cases c1 : p.Size < 1
  · exact ⟨false, by simp only [c1, decide_true, if_true], by simp; intro h; have := h.s1; omega⟩
  by_cases c2 : p.Size > 64
  · exact ⟨false, by simp only [c1, c2, decide_true, decide_false, Bool.false_eq_true, if_true, if_false], by simp; intro h; have := h.s2; omega⟩
  by_cases c3 : ((p.Frames.length : Nat) : Int) > p.Size
  · exact ⟨false, by simp only [c1, c2, c3, decide_true, decide_false, Bool.false_eq_true, if_true, if_false], by simp; intro h; have := h.n; omega⟩
  by_cases c4 : p.Hand < 0
  · exact ⟨false, by simp only [c1, c2, c3, c4, decide_true, decide_false, Bool.false_eq_true, if_true, if_false], by simp; intro h; have := h.h0; omega⟩
  by_cases c5 : p.Hand ≥ J6e 1 ((p.Frames.length : Nat) : Int)
  · exact ⟨false, by simp only [c1, c2, c3, c4, c5, decide_true, decide_false, Bool.false_eq_true, if_true, if_false], by simp; intro h; have := h.h1; omega⟩
  simp only [c1, c2, c3, c4, c5, decide_false, Bool.false_eq_true, if_false]
  have hiff := JfR (p := p) (by omega) (by omega) (by omega) (by omega) (by omega)
  have hlt : p.Frames.length < 1000000 := by omega
  have key := Jik (f := fun s => J26 p.Frames (p.Frames.length : Int) p s) (n := p.Frames.length) (Rq p.Frames) false true hlt
    (fun k hk => by
      have e1 : ((k : Nat) : Int) < (p.Frames.length : Int) := by omega
      obtain ⟨b, hb, hbi⟩ := JgV p.Frames[k].Page
      simp only [J26, e1, decide_true, if_true, J7t hk, Option.bind_some, hb, J1N hlt, J2V (show k < 1000000 by omega)]
      obtain ⟨j, hj, _⟩ := Jdy hk
      simp only [hj, J5Y]
      cases hb0 : b with
      | false =>
        right
        refine ⟨fun ⟨_, a, _⟩ => ?_, by simp only [Bool.false_eq_true, if_false]⟩
        have := hbi.2 a.page
        rw [hb0] at this; cases this
      | true =>
        have hpg := hbi.1 hb0
        simp only [if_true]
        by_cases hjk : j = k
        · subst hjk
          have d : (((j : Nat) : Int) != ((j : Nat) : Int)) = false := by simp
          simp only [d, Bool.false_eq_true, if_false]
          cases hd : p.Frames[j].Dirty with
          | true =>
            simp only [if_true]
            by_cases r1 : p.Frames[j].Rec < 1
            · exact .inr ⟨fun ⟨_, a, _⟩ => by have := (a.d1 hd).1; omega, by simp only [r1, decide_true, if_true]⟩
            · by_cases r2 : p.Frames[j].Rec > p.Frames[j].Page.LSN
              · exact .inr ⟨fun ⟨_, a, _⟩ => by have := (a.d1 hd).2; omega, by simp only [r1, r2, decide_true, decide_false, Bool.false_eq_true, if_true, if_false]⟩
              · exact .inl ⟨⟨hk, ⟨hpg, fun _ => ⟨by omega, by omega⟩, fun h => by rw [hd] at h; cases h⟩, hj⟩, by simp only [r1, r2, decide_false, Bool.false_eq_true, if_false]⟩
          | false =>
            simp only [Bool.false_eq_true, if_false]
            by_cases r1 : p.Frames[j].Rec = 0
            · have d2 : (p.Frames[j].Rec != 0) = false := by simpa using r1
              exact .inl ⟨⟨hk, ⟨hpg, (fun h => by rw [hd] at h; cases h), fun _ => r1⟩, hj⟩, by simp only [d2, Bool.false_eq_true, if_false]⟩
            · have d2 : (p.Frames[j].Rec != 0) = true := by simpa using r1
              exact .inr ⟨fun ⟨_, a, _⟩ => r1 (a.d0 hd), by simp only [d2, if_true]⟩
        · have d : (((j : Nat) : Int) != ((k : Nat) : Int)) = true := by simp; omega
          exact .inr ⟨fun ⟨_, _, a⟩ => by rw [hj] at a; injection a with a; exact hjk a, by simp only [d, if_true]⟩)
    (by
      have e1 : ¬ ((p.Frames.length : Nat) : Int) < (p.Frames.length : Int) := by omega
      simp only [J26, e1, decide_false, Bool.false_eq_true, if_false, J4W, Option.map_some])
  rcases key with ⟨e, h⟩ | ⟨e, h⟩
  · exact ⟨true, e, by simpa using hiff.1 h⟩
  · exact ⟨false, e, by simpa using fun h2 => h (hiff.2 h2)⟩
theorem J2f {p : T_api_Pool} (h : J2p p) : J0V p = some true := by
  obtain ⟨b, e, hb⟩ := JbE p
  rw [e, hb.2 h]
theorem J95 {l : List T_api_Frame} (h : l.length ≤ 1000) : J02 l = some l := by
  have e : (2 * l.length + 512) * 424 ≤ 281474976710656 := by omega
  unfold J02
  rw [if_pos e]
theorem J2p.len {p : T_api_Pool} (h : J2p p) : p.Frames.length ≤ 64 := by
  have := h.n; have := h.s2; omega
end Go.Am
end
section
namespace Go.Am
set_option maxRecDepth 16000
set_option maxHeartbeats 2000000
abbrev J1E : Vector Jc 16 := Vector.replicate 16 (⟨false, []⟩ : Jc)
def fr0 (b i : Nat) (u : Bool) : T_api_Frame := ⟨⟨((b + i : Nat) : Int), 0, J1E⟩, false, 0, u⟩
def frs (b : Nat) (l : List Bool) : List T_api_Frame := l.mapIdx fun i u => fr0 b i u
theorem J37 (b : Nat) (l : List Bool) : (frs b l).length = l.length := by simp [frs]
theorem J2v {b : Nat} {l : List Bool} {k : Nat} (h : k < l.length) : (frs b l)[k]'(by rw [J37]; exact h) = fr0 b k l[k] := by simp [frs]
theorem JjL (b : Nat) (l : List Bool) (k : Nat) (u : Bool) : (frs b l).set k (fr0 b k u) = frs b (l.set k u) := by
  apply List.ext_getElem
  · simp [frs]
  · intro i h1 h2
    rw [List.getElem_set]
    simp only [frs, List.getElem_mapIdx, List.getElem_set]
    split
    · rename_i e; subst e; simp
    · simp [*]
theorem JiJ (b : Nat) (l : List Bool) (u : Bool) : frs b l ++ [fr0 b l.length u] = frs b (l ++ [u]) := by simp [frs, List.mapIdx_append]
def plz (b n : Nat) (l : List Bool) (h : Nat) : T_api_Pool := ⟨(n : Int), frs b l, (h : Int)⟩
theorem Je7 {b : Nat} {n : Nat} {l : List Bool} {h : Nat} (h1 : 1 ≤ n) (h2 : b + n ≤ 64) (hl : l.length ≤ n) (hh : h < max 1 l.length) : J2p (plz b n l h) := by
  have e := J37 b l
  refine ⟨by show (1 : Int) ≤ n; omega, by show (n : Int) ≤ 64; omega, by show (((frs b l).length : Nat) : Int) ≤ n; omega, by show (0 : Int) ≤ h; omega, ?_, fun k hk => ?_, fun i j hi hj he => ?_⟩
  · show (h : Int) < J6e 1 (((frs b l).length : Nat) : Int)
    unfold J6e
    split <;> omega
  · have hk' : k < l.length := by rw [← e]; exact hk
    have : (plz b n l h).Frames[k] = fr0 b k l[k] := J2v hk'
    rw [this]
    exact ⟨J7U (by show (0 : Int) ≤ ((b + k : Nat) : Int); omega) (by show ((b + k : Nat) : Int) < 64; omega) (by omega) (by omega), (fun h => by cases h), fun _ => rfl⟩
  · have hi' : i < l.length := by rw [← e]; exact hi
    have hj' : j < l.length := by rw [← e]; exact hj
    have ei : (plz b n l h).Frames[i] = fr0 b i l[i] := J2v hi'
    have ej : (plz b n l h).Frames[j] = fr0 b j l[j] := J2v hj'
    rw [ei, ej] at he
    have he : ((b + i : Nat) : Int) = ((b + j : Nat) : Int) := he
    omega
theorem JiN {b : Nat} {n : Nat} {l : List Bool} {h : Nat} {k : Nat} (hl : l.length ≤ 64) : J1r (plz b n l h) ((b + k : Nat) : Int) = some (if k < l.length then (k : Int) else -1) := by
  have e := J37 b l
  rw [J1N (by show (frs b l).length < _; omega)]
  by_cases hk : k < l.length
  · have h3 := Jaq (l := frs b l) (fun i j hi hj he => by
      rw [J2v (by omega), J2v (by omega)] at he
      have he : ((b + i : Nat) : Int) = ((b + j : Nat) : Int) := he
      omega) (k := k) (by omega)
    rw [J2v hk] at h3
    have h3 : J0w (plz b n l h).Frames ((b + k : Nat) : Int) = some k := h3
    rw [h3, if_pos hk]; rfl
  · have h3 : J0w (frs b l) ((b + k : Nat) : Int) = none := by
      unfold J0w
      rw [List.findIdx?_eq_none_iff]
      intro x hx
      obtain ⟨i, hi, rfl⟩ := List.getElem_of_mem hx
      rw [J2v (by omega)]
      have : ((b + i : Nat) : Int) ≠ ((b + k : Nat) : Int) := by omega
      simpa [fr0] using this
    have h3 : J0w (plz b n l h).Frames ((b + k : Nat) : Int) = none := h3
    rw [h3, if_neg hk]; rfl
theorem Jch {l : List T_api_Frame} {f : T_api_Frame} (h : l.length ≤ 1000) : J9Z 424 l [f] = some (l ++ [f]) := by
  have e : 0 < [f].length ∧ J4P (l.length + [f].length) 424 = true := by
    refine ⟨by simp, ?_⟩
    simp only [J4P, List.length_cons, List.length_nil]
    simp; omega
  unfold J9Z
  rw [if_pos e]
theorem JbV {b : Nat} {n : Nat} {l : List Bool} (h1 : 1 ≤ n) (h2 : b + n ≤ 64) (hl : l.length < n) : J0m (plz b n l 0) ⟨((b + l.length : Nat) : Int), 0, J1E⟩ = some (plz b n (l ++ [true]) 0, 0) := by
  have e := J37 b l
  have ok := Je7 (b := b) (n := n) (l := l) (h := 0) h1 h2 (by omega) (by omega)
  have a1 := J70 (p := ⟨((b + l.length : Nat) : Int), 0, J1E⟩) (J7U (by omega) (by omega) (by omega) (by omega))
  have a2 := JiN (b := b) (n := n) (l := l) (h := 0) (k := l.length) (by omega)
  rw [if_neg (by omega)] at a2
  have d0 : ((0 : Int) != 0) = false := rfl
  have d1 : ¬ ((-1 : Int) ≥ 0) := by omega
  have d2 : ((((plz b n l 0).Frames.length : Nat) : Int) == (plz b n l 0).Size) = false := by
    have : (((frs b l).length : Nat) : Int) ≠ (n : Int) := by omega
    simpa [plz] using this
  have a3 : J9Z 424 (plz b n l 0).Frames [fr0 b l.length true] = some (frs b l ++ [fr0 b l.length true]) := Jch (by show (frs b l).length ≤ 1000; omega)
  have a3 : J9Z 424 (plz b n l 0).Frames ([(⟨⟨((b + l.length : Nat) : Int), 0, J1E⟩, false, 0, true⟩ : T_api_Frame)] : List T_api_Frame) = some (frs b (l ++ [true])) := by rw [← JiJ]; exact a3
  simp only [J0m, J2f ok, a1, a2, d0, d1, d2, decide_false, Option.bind_some, if_true, Bool.false_eq_true, if_false, JS, a3]
  rfl
def clr (l : List Bool) (k : Nat) : List Bool := List.replicate k false ++ l.drop k
theorem JbH {l : List Bool} {k : Nat} (h : k ≤ l.length) : (clr l k).length = l.length := by simp [clr]; omega
theorem Jf7 {l : List Bool} {k : Nat} (h : k < l.length) : (clr l k)[k]'(by rw [JbH (by omega)]; exact h) = l[k] := by
  simp [clr]
theorem JhQ (l : List Bool) : clr l 0 = l := by simp [clr]
theorem Jjf {l : List Bool} {k : Nat} (h : k < l.length) : (clr l k).set k false = clr l (k + 1) := by
  unfold clr
  rw [List.drop_eq_getElem_cons h, List.set_append_right _ _ (by simp), List.length_replicate, Nat.sub_self, List.set_cons_zero, List.replicate_succ', List.append_assoc]
  rfl
def JdD (l : List Bool) : Nat := match l.findIdx? fun u => !u with
  | some j => j
  | none => 0
def after (l : List Bool) : List Bool := match l.findIdx? fun u => !u with
  | some j => clr l j
  | none => List.replicate l.length false
theorem Jd7 {b : Nat} {n : Nat} {l : List Bool} (h1 : 1 ≤ n) (h2 : b + n ≤ 64) (hl : l.length ≤ n) (h0 : 0 < l.length) :
    J1Y (plz b n l 0) = some (plz b n (after l) (JdD l), ((b + JdD l : Nat) : Int), 0) := by
  have e := J37 b l
  have ok := Je7 (b := b) (n := n) (l := l) (h := 0) h1 h2 hl (by omega)
  have d0 : ((((plz b n l 0).Frames.length : Nat) : Int) == 0) = false := by
    have : (((frs b l).length : Nat) : Int) ≠ 0 := by omega
    simpa [plz] using this
  have step : ∀ k, k < l.length → (l[k]? = some true) → (fun s : Int × List T_api_Frame => J1l (n : Int) (⟨0, ([] : List T_api_Frame), 0⟩ : T_api_Pool) s.1 s.2) ((k : Int), frs b (clr l k)) = some (.inl ((((k + 1) % l.length : Nat) : Int), frs b (clr l (k + 1)))) := by
    intro k hk hu
    have hc := JbH (l := l) (k := k) (by omega)
    have i1 : idx (frs b (clr l k)) (k : Int) = some (fr0 b k true) := by
      rw [J7t (by rw [J37]; omega), J2v (by omega), Jf7 hk]
      rw [List.getElem?_eq_getElem hk] at hu
      injection hu with hu
      rw [hu]
    have w1 : IntKind.wrap .i64 ((k : Int) + 1) = ((k + 1 : Nat) : Int) := J2V (by omega)
    have r1 : J7e ((k + 1 : Nat) : Int) (((frs b (clr l k)).length : Nat) : Int) = some (((k + 1) % l.length : Nat) : Int) := by
      unfold J7e
      rw [if_neg (by rw [J37]; omega), J37, hc]
      rfl
    have s1 : (frs b (clr l k)).set k (fr0 b k false) = frs b (clr l (k + 1)) := by rw [JjL, Jjf hk]
    have hu' : (fr0 b k true).Used = true := rfl
    simp only [J1l, i1, Option.bind_some, hu', if_true, w1, r1, Int.toNat_natCast]
    have : (⟨(fr0 b k true).Page, (fr0 b k true).Dirty, (fr0 b k true).Rec, false⟩ : T_api_Frame) = fr0 b k false := rfl
    rw [this, s1]
  have run : ∀ m k, k + m < l.length → (∀ i, k ≤ i → i < k + m → l[i]? = some true) → J2u (n : Int) (⟨0, ([] : List T_api_Frame), 0⟩ : T_api_Pool) ((k : Int), frs b (clr l k)) = J2u (n : Int) (⟨0, ([] : List T_api_Frame), 0⟩ : T_api_Pool) (((k + m : Nat) : Int), frs b (clr l (k + m))) := by
    intro m
    induction m with
    | zero => intro k _ _; rfl
    | succ m ih =>
      intro k hk hu
      have e1 := step k (by omega) (hu k (Nat.le_refl _) (by omega))
      rw [Nat.mod_eq_of_lt (by omega)] at e1
      have := ih (k + 1) (by omega) fun i h3 h4 => hu i (by omega) (by omega)
      rw [show k + 1 + m = k + (m + 1) by omega] at this
      exact (J43 e1).trans this
  have fin : ∀ (k : Nat) (l' : List Bool), l'.length = l.length → k < l'.length → l'[k]? = some false → J2u (n : Int) (⟨0, ([] : List T_api_Frame), 0⟩ : T_api_Pool) ((k : Int), frs b l') = some (plz b n l' k, ((b + k : Nat) : Int), 0) := by
    intro k l' hl' hk hu
    have i1 : idx (frs b l') (k : Int) = some (fr0 b k false) := by
      rw [J7t (by rw [J37]; omega), J2v hk]
      rw [List.getElem?_eq_getElem hk] at hu
      injection hu with hu
      rw [hu]
    refine J2I (f := fun s : Int × List T_api_Frame => J1l (n : Int) (⟨0, ([] : List T_api_Frame), 0⟩ : T_api_Pool) s.1 s.2) ?_
    have hu' : (fr0 b k false).Used = false := rfl
    simp only [J1l, i1, Option.bind_some, hu', Bool.false_eq_true, if_false, J4p, Option.map_some]
    rfl
  have w : J2u (n : Int) (⟨0, ([] : List T_api_Frame), 0⟩ : T_api_Pool) (0, frs b l) = some (plz b n (after l) (JdD l), ((b + JdD l : Nat) : Int), 0) := by
    have z : (0, frs b l) = (((0 : Nat) : Int), frs b (clr l 0)) := by rw [JhQ]; rfl
    rw [z]
    unfold after JdD
    cases hf : l.findIdx? (fun u => !u) with
    | some j =>
      obtain ⟨hj, h3, h4⟩ := List.findIdx?_eq_some_iff_getElem.1 hf
      have r := run j 0 (by omega) fun i _ hi => by
        rw [List.getElem?_eq_getElem (by omega)]
        have := h4 i (by omega)
        simpa using this
      rw [r]
      simp only [Nat.zero_add]
      have hc := JbH (l := l) (k := j) (by omega)
      refine fin j (clr l j) hc (by omega) ?_
      rw [List.getElem?_eq_getElem (by omega), Jf7 hj]
      simpa using h3
    | none =>
      rw [List.findIdx?_eq_none_iff] at hf
      have hall : ∀ i, i < l.length → l[i]? = some true := fun i hi => by
        rw [List.getElem?_eq_getElem hi]
        have := hf _ (List.getElem_mem hi)
        simpa using this
      have r := run (l.length - 1) 0 (by omega) fun i _ hi => hall i (by omega)
      rw [r]
      simp only [Nat.zero_add]
      have e1 := step (l.length - 1) (by omega) (hall _ (by omega))
      rw [show l.length - 1 + 1 = l.length by omega, Nat.mod_self] at e1
      have hcl : clr l l.length = List.replicate l.length false := by simp [clr]
      rw [hcl] at e1
      refine (J43 e1).trans ?_
      exact fin 0 (List.replicate l.length false) (by simp) (by simpa using h0) (by simp [h0])
  simp only [J1Y, J2f ok, Option.bind_some, if_true, d0, Bool.false_eq_true, if_false, J95 (l := (plz b n l 0).Frames) (by show (frs b l).length ≤ 1000; omega)]
  exact w
end Go.Am
end
section
namespace Go.Am
set_option maxRecDepth 16000
set_option maxHeartbeats 2000000
theorem JdJ {n : Nat} (h1 : 1 ≤ n) (h2 : n ≤ 64) : J2H (n : Int) = some (plz 0 n [] 0, 0) := by
  have c1 : ¬ (n : Int) < 1 := by omega
  have c2 : ¬ (n : Int) > 64 := by omega
  simp only [J2H, c1, c2, decide_false, Bool.false_eq_true, if_false]
  rfl
theorem Jfn : J2x = some true := by
  have a1 : J2H 2 = some (plz 1 2 [] 0, 0) := JdJ (n := 2) (by omega) (by omega)
  have a2 : J0m (plz 1 2 [] 0) ⟨1, 0, J1E⟩ = some (plz 1 2 [true] 0, 0) := JbV (b := 1) (n := 2) (l := []) (by omega) (by omega) (by simp)
  have a3 : J0m (plz 1 2 [true] 0) ⟨2, 0, J1E⟩ = some (plz 1 2 [true, true] 0, 0) := JbV (b := 1) (n := 2) (l := [true]) (by omega) (by omega) (by simp)
  have a4 : J1Y (plz 1 2 [true, true] 0) = some (plz 1 2 [false, false] 0, 1, 0) := Jd7 (b := 1) (n := 2) (l := [true, true]) (by omega) (by omega) (by simp) (by simp)
  have d0 : ((0 : Int) == 0) = true := rfl
  have d1 : ((1 : Int) == 1) = true := rfl
  have d2 : ((((plz 1 2 [false, false] 0).Frames.length : Nat) : Int) == 2) = true := rfl
  have i0 : idx (plz 1 2 [false, false] 0).Frames 0 = some (fr0 1 0 false) := rfl
  have i1 : idx (plz 1 2 [false, false] 0).Frames 1 = some (fr0 1 1 false) := rfl
  have u0 : (fr0 1 0 false).Used = false := rfl
  have u1 : (fr0 1 1 false).Used = false := rfl
  unfold J2x
  simp only [a1, a2, a3, a4, d0, d1, d2, i0, i1, u0, u1, Option.bind_some, if_true, Bool.false_eq_true, if_false, Bool.not_false]
section
end
end Go.Am
end
