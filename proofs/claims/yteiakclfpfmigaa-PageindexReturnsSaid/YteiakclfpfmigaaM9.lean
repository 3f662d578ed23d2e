/-
  Parts of a proof: YteiakclfpfmigaaRef, YteiakclfpfmigaaRef2, YteiakclfpfmigaaLaws, YteiakclfpfmigaaPidx, YteiakclfpfmigaaPidx2, AmIn, AmLaw.
-/
import Derived.ChangeArms
import Derived.OpenShut
import Derived.ChangeBears
import Derived.ChangeStays
import Derived.Handed
import Derived.RowKit3
import Derived.WalkKit
import Derived.ProofKit
import Derived.Test.YteiakclfpfmigaaM4
import Derived.Test.YteiakclfpfmigaaM8
set_option linter.unusedSimpArgs false
set_option linter.unusedVariables false
section
namespace Go.Am
end Go.Am
end
section
namespace Go.Am
set_option maxRecDepth 16000
theorem bind_none {α β : Type} {o : Option α} {f : α → Option β} (h : Option.bind o f = none) (h2 : ∀ x, o = some x → f x ≠ none) : o = none := by
  cases o with
  | none => rfl
  | some x => exact (h2 x rfl h).elim
end Go.Am
end
section
namespace Go.Am
set_option maxRecDepth 16000
theorem Jlj {l : List Int} (h : List.length l ≤ maxLen ∧ ∀ x ∈ l, 0 ≤ x ∧ x ≤ 255) {n : Nat} (hn : n ≤ 1000) : ∃ b, J4n l (n : Int) = some b ∧ J5k b := Jmp h.2 hn
theorem Jde {α ρ : Type} {f : Int → Option (Int ⊕ ρ)} {l : List α} {out : ρ} (hl : l.length < 1000000) (h1 : ∀ (k : Nat) (h : k < l.length), f (k : Int) = some (.inl ((k + 1 : Nat) : Int))) (h2 : f (l.length : Int) = some (.inr out)) : J1u f 0 = some out := by
  obtain ⟨b, hb, rfl⟩ := J7f (f := f) (fun q => ∃ j : Nat, q = j ∧ j ≤ l.length) (fun q => (l.length - q).toNat) (fun b => b = out) (fun q ⟨j, hj, h4⟩ => by
    subst hj
    by_cases hlt : j < l.length
    · left
      exact ⟨((j + 1 : Nat) : Int), h1 j hlt, ⟨j + 1, rfl, by omega⟩, by omega⟩
    · right
      obtain rfl : j = l.length := by omega
      exact ⟨out, h2, rfl⟩) 0 ⟨0, rfl, by omega⟩
  exact hb
end Go.Am
end
section
namespace Go.Am
set_option maxRecDepth 16000
structure J4F (r : T_api_Row) : Prop where
  l0 : 0 ≤ r.LSN
  l1 : r.LSN ≤ 1099511627776
  i0 : 0 ≤ r.Image
  i1 : r.Image ≤ 1099511627776
  m0 : 0 ≤ r.ImageLSN
  m1 : r.ImageLSN ≤ 1099511627776
  im : r.Image = 0 → r.ImageLSN = 0
def J9j (l : List T_api_Row) : Prop := ∀ r ∈ l, J4F r
structure J6g (x : T_api_Index) : Prop where
  n1 : 1 ≤ x.Rows.length
  n2 : x.Rows.length ≤ 64
  rows : J9j x.Rows
theorem JcC {l : List T_api_Row} {k : Nat} {r : T_api_Row} (h : J9j l) (hr : J4F r) : J9j (l.set k r) := by
  intro q hq
  rcases List.mem_or_eq_of_mem_set hq with h1 | rfl
  · exact h _ h1
  · exact hr
theorem JgT {α : Type} {l : List α} {k : Nat} {v : α} (h : k < l.length) : idx (l.set k v) (k : Int) = some v := by
  rw [Jea, List.getElem?_set_self h]
theorem J77 {α : Type} {l : List α} {k : Nat} (h : k < l.length) : idx l (k : Int) = some l[k] := by
  rw [Jea, List.getElem?_eq_getElem h]
theorem J68 {n : Int} (h0 : 0 ≤ n) (h1 : n ≤ 1099511627776) : J0o n = some true := by
  simp [J0o, h0, h1]
theorem Jk6 {r : T_api_Row} (h : J4F r) : J1E r = some false := by
  unfold J1E
  simp only [J68 h.l0 h.l1, J68 h.i0 h.i1, J68 h.m0 h.m1, Option.bind_some, if_true]
  by_cases hi : r.Image = 0
  · simp [hi, h.im hi]
  · simp [hi]
theorem J78 {x : T_api_Index} (h : J6g x) : J11 x = some true := by
  have n1 := h.n1; have n2 := h.n2
  have e : JW x.Rows = some (-1) := by
    refine Jde (f := fun s => JD x.Rows (x.Rows.length : Int) s) (l := x.Rows) (by omega) (fun k hk => ?_) ?_
    · have e1 : ((k : Nat) : Int) < (x.Rows.length : Int) := by omega
      simp only [JD, e1, decide_true, if_true, J77 hk, Option.bind_some, Jk6 (h.rows _ (List.getElem_mem hk)), Bool.false_eq_true, if_false, J88 (show k < 1000000 by omega)]
    · have e1 : ¬ ((x.Rows.length : Nat) : Int) < (x.Rows.length : Int) := by omega
      simp only [JD, e1, decide_false, Bool.false_eq_true, if_false, J09, Option.map_some]
  have c1 : ((x.Rows.length : Nat) : Int) ≥ 1 := by omega
  have c2 : ((x.Rows.length : Nat) : Int) ≤ 64 := by omega
  have e3 : decide ((-1 : Int) ≥ 0) = false := rfl
  simp only [J11, c1, c2, decide_true, if_true, JR, e, Option.bind_some, e3, Bool.not_false]
theorem Jek (n : Nat) : J9j (List.replicate n ⟨0, 0, 0⟩) := by
  intro r hr
  obtain rfl := (List.mem_replicate.1 hr).2
  exact ⟨by simp, by simp, by simp, by simp, by simp, by simp, fun _ => rfl⟩
theorem Jh1 {n : Nat} (h : n ≤ 64) : mkS 24 (n : Int) (n : Int) (⟨0, 0, 0⟩ : T_api_Row) = some (List.replicate n ⟨0, 0, 0⟩) := by
  have e : (0 : Int) ≤ (n : Int) ∧ (n : Int) ≤ (n : Int) ∧ ((24 : Nat) : Int) * (n : Int) ≤ 281474976710656 ∧ (n : Int) ≤ 281474976710656 := by omega
  unfold mkS
  rw [if_pos e, Int.toNat_natCast]
theorem Jik {n : Nat} (h1 : 1 ≤ n) (h2 : n ≤ 64) : J2e (n : Int) = some (⟨List.replicate n ⟨0, 0, 0⟩⟩, 0) := by
  have c1 : ¬ (n : Int) < 1 := by omega
  have c2 : ¬ (n : Int) > 64 := by omega
  simp only [J2e, c1, c2, decide_false, Bool.false_eq_true, if_false, Jh1 h2, Option.bind_some]
theorem JfI {n : Nat} (h1 : 1 ≤ n) (h2 : n ≤ 64) : J4y (n : Int) = some (⟨List.replicate n ⟨0, 0, 0⟩⟩, 0) := by
  have c1 : ¬ (n : Int) < 1 := by omega
  have c2 : ¬ (n : Int) > 64 := by omega
  simp only [J4y, c1, c2, decide_false, Bool.false_eq_true, if_false, Jh1 h2, Option.bind_some]
theorem Jhf {n : Nat} (h1 : 1 ≤ n) (h2 : n ≤ 64) : J6g ⟨List.replicate n ⟨0, 0, 0⟩⟩ := ⟨by simpa using h1, by simpa using h2, Jek n⟩
theorem Jdi (x : T_api_Index) (h : x.Rows.length ≤ 64) : J3h x x = some true := by
  have e : J75 x x 0 = some true := by
    refine Jde (f := fun s => J38 x x s) (l := x.Rows) (by omega) (fun k hk => ?_) ?_
    · have e1 : ((k : Nat) : Int) < (x.Rows.length : Int) := by omega
      simp only [J38, e1, decide_true, if_true, J77 hk, Option.bind_some, beq_self_eq_true, J88 (show k < 1000000 by omega)]
    · have e1 : ¬ ((x.Rows.length : Nat) : Int) < (x.Rows.length : Int) := by omega
      simp only [J38, e1, decide_false, Bool.false_eq_true, if_false, J5L, Option.map_some]
  simp only [J3h, bne_self_eq_false, Bool.false_eq_true, if_false, e]
theorem Jhz {b : T_pagemenddraw_Codes} (hb : J5k b) : ∃ x b', J4e b = some (x, b') ∧ J5k b' ∧ J6g x ∧ x.Rows.length ≤ 5 ∧ (∀ r ∈ x.Rows, r.LSN < 40) := by
  obtain ⟨n, b1, a1, hb1, n0, n1⟩ := J5i hb (n := 5) (by omega) (by omega)
  obtain ⟨k, rfl⟩ : ∃ k : Nat, n = (k : Int) := ⟨n.toNat, by omega⟩
  have e0 : IntKind.wrap .i64 (1 + (k : Int)) = ((k + 1 : Nat) : Int) := by rw [J2X (by omega) (by omega)]; omega
  have e00 : ((0 : Int) == 0) = true := rfl
  have loop := J7f (f := fun s : Int × T_pagemenddraw_Codes × List T_api_Row => J2f (⟨([] : List T_api_Row)⟩ : T_api_Index) s.1 s.2.1 s.2.2)
    (fun s => ∃ j : Nat, s.1 = j ∧ j ≤ k + 1 ∧ J5k s.2.1 ∧ s.2.2.length = k + 1 ∧ J9j s.2.2 ∧ (∀ r ∈ s.2.2, r.LSN < 40)) (fun s => (k + 1 - s.1).toNat)
    (fun o => J5k o.2 ∧ J6g o.1 ∧ o.1.Rows.length ≤ 5 ∧ (∀ r ∈ o.1.Rows, r.LSN < 40)) (fun s ⟨j, hj, h4, hc, hl, hR, h40⟩ => by
    obtain ⟨q, c, l⟩ := s
    simp only at hj hc hl hR h40
    subst hj
    by_cases hlt : j < k + 1
    · left
      have hlt' : j < l.length := by omega
      have e1 : ((j : Nat) : Int) < ((l.length : Nat) : Int) := by omega
      obtain ⟨r2, c2, a2, hc2, p0, p1⟩ := J5i hc (n := 40) (by omega) (by omega)
      obtain ⟨r3, c3, a3, hc3, _, _⟩ := J5i hc2 (n := 3) (by omega) (by omega)
      have hy := hR _ (List.getElem_mem hlt')
      generalize hg : l[j] = y at hy
      have hq : J4F ⟨r2, y.Image, y.ImageLSN⟩ := ⟨p0, by show r2 ≤ _; omega, hy.i0, hy.i1, hy.m0, hy.m1, hy.im⟩
      by_cases h0 : r3 = 0
      · have d : (r3 == 0) = true := by simpa using h0
        obtain ⟨r4, c4, a4, hc4, q0, q1⟩ := J5i hc3 (n := 4) (by omega) (by omega)
        obtain ⟨r5, c5, a5, hc5, t0, t1⟩ := J5i hc4 (n := 40) (by omega) (by omega)
        have e2 : IntKind.wrap .i64 (1 + r4) = 1 + r4 := J2X (by omega) (by omega)
        refine ⟨(((j + 1 : Nat) : Int), c5, l.set j ⟨r2, 1 + r4, r5⟩), ?_, ⟨j + 1, rfl, by omega, hc5, by simpa using hl, JcC hR ⟨p0, by show r2 ≤ _; omega, by show 0 ≤ 1 + r4; omega, by show 1 + r4 ≤ _; omega, t0, by show r5 ≤ _; omega, fun h => by have h' : 1 + r4 = 0 := h; omega⟩, fun r hr => ?_⟩, by simp; omega⟩
        · simp only [J2f, e1, decide_true, if_true, a2, a3, a4, a5, Option.bind_some, J77 hlt', hg, d, Int.toNat_natCast, JgT hlt', JgT (l := l.set j _) (show j < _ by simpa using hlt'), List.set_set, e2, J3m, J88 (show j < 1000000 by omega)]
        · rcases List.mem_or_eq_of_mem_set hr with h1 | rfl
          · exact h40 _ h1
          · exact p1
      · have d : (r3 == 0) = false := by simpa using h0
        refine ⟨(((j + 1 : Nat) : Int), c3, l.set j ⟨r2, y.Image, y.ImageLSN⟩), ?_, ⟨j + 1, rfl, by omega, hc3, by simpa using hl, JcC hR hq, fun r hr => ?_⟩, by simp; omega⟩
        · simp only [J2f, e1, decide_true, if_true, a2, a3, Option.bind_some, J77 hlt', hg, d, Bool.false_eq_true, if_false, Int.toNat_natCast, J3m, J88 (show j < 1000000 by omega)]
        · rcases List.mem_or_eq_of_mem_set hr with h1 | rfl
          · exact h40 _ h1
          · exact p1
    · right
      have e1 : ¬ ((j : Nat) : Int) < ((l.length : Nat) : Int) := by omega
      exact ⟨(⟨l⟩, c), by simp only [J2f, e1, decide_false, Bool.false_eq_true, if_false, J5t, Option.map_some], hc, ⟨by show 1 ≤ l.length; omega, by show l.length ≤ 64; omega, hR⟩, by show l.length ≤ 5; omega, h40⟩)
    (0, b1, List.replicate (k + 1) ⟨0, 0, 0⟩) ⟨0, rfl, by omega, hb1, by simp, Jek _, fun r hr => by
      obtain rfl := (List.mem_replicate.1 hr).2
      decide⟩
  obtain ⟨⟨x, b'⟩, hr, h1, h2, h3, h5⟩ := loop
  refine ⟨x, b', ?_, h1, h2, h3, h5⟩
  unfold J4e
  simp only [a1, Option.bind_some, e0, JfI (n := k + 1) (by omega) (by omega), e00, if_true]
  exact hr
def J7q (r : T_api_Row) : List UInt8 := J0Z r.LSN 8 ++ (J0Z r.Image 8 ++ J0Z r.ImageLSN 8)
def J3l (l : List T_api_Row) : List UInt8 := (l.map J7q).flatten
def J4w (x : T_api_Index) : List UInt8 := J0Z (x.Rows.length : Int) 2 ++ J3l x.Rows
theorem JjU (r : T_api_Row) : (J7q r).length = 24 := by simp [J7q, J1I]
theorem J8K : ∀ l : List T_api_Row, (J3l l).length = 24 * l.length
  | [] => rfl
  | r :: l => by
    have := J8K l
    unfold J3l at this ⊢
    simp only [List.map_cons, List.flatten_cons, List.length_append, JjU, this, List.length_cons]
    omega
theorem JaL (a b : List T_api_Row) : J3l (a ++ b) = J3l a ++ J3l b := by simp [J3l]
theorem Jeo (r : T_api_Row) : J3l [r] = J7q r := by simp [J3l]
theorem JcI (x : T_api_Index) : (J4w x).length = 2 + 24 * x.Rows.length := by simp [J4w, J8K, J1I]
theorem JaD {α : Type} {l : List α} {j : Nat} (h : j < l.length) : l.take (j + 1) = l.take j ++ [l[j]] := by
  rw [List.take_add_one, List.getElem?_eq_getElem h]; rfl
theorem JfO {x : T_api_Index} (h : J6g x) : J1U x = some (J4w x, 0) := by
  have n1 := h.n1; have n2 := h.n2
  have p0 : J2l [] ((x.Rows.length : Nat) : Int) 2 = some (J0Z ((x.Rows.length : Nat) : Int) 2) := Jbn [] _ (k := 2) (by omega) (by omega) (by simp)
  obtain ⟨o, ho, rfl⟩ := J7f (f := fun s : List UInt8 × Int => J1C x.Rows (x.Rows.length : Int) s.1 s.2)
    (fun s => ∃ j : Nat, s.2 = j ∧ j ≤ x.Rows.length ∧ s.1 = J0Z (x.Rows.length : Int) 2 ++ J3l (x.Rows.take j)) (fun s => (x.Rows.length - s.2).toNat) (fun o => o = (J4w x, 0)) (fun s ⟨j, hj, h4, hs⟩ => by
    obtain ⟨l, q⟩ := s
    simp only at hj hs
    subst hj
    by_cases hlt : j < x.Rows.length
    · left
      have e1 : ((j : Nat) : Int) < (x.Rows.length : Int) := by omega
      have hl : l.length ≤ 2000 := by
        rw [hs, List.length_append, J1I, J8K, List.length_take]; omega
      have a1 : J2l l x.Rows[j].LSN 8 = some (l ++ J0Z x.Rows[j].LSN 8) := Jbn _ _ (k := 8) (by omega) (by omega) (by omega)
      have a2 : J2l (l ++ J0Z x.Rows[j].LSN 8) x.Rows[j].Image 8 = some (l ++ J0Z x.Rows[j].LSN 8 ++ J0Z x.Rows[j].Image 8) := Jbn _ _ (k := 8) (by omega) (by omega) (by rw [List.length_append, J1I]; omega)
      have a3 : J2l (l ++ J0Z x.Rows[j].LSN 8 ++ J0Z x.Rows[j].Image 8) x.Rows[j].ImageLSN 8 = some (l ++ J0Z x.Rows[j].LSN 8 ++ J0Z x.Rows[j].Image 8 ++ J0Z x.Rows[j].ImageLSN 8) := Jbn _ _ (k := 8) (by omega) (by omega) (by rw [List.length_append, List.length_append, J1I, J1I]; omega)
      refine ⟨(l ++ J7q x.Rows[j], ((j + 1 : Nat) : Int)), ?_, ⟨j + 1, rfl, by omega, ?_⟩, by simp; omega⟩
      · simp only [J1C, e1, decide_true, if_true, J77 hlt, Option.bind_some, a1, a2, a3, J88 (show j < 1000000 by omega)]
        simp only [J7q, List.append_assoc]
      · show l ++ J7q x.Rows[j] = _
        rw [JaD hlt, JaL, Jeo, hs, List.append_assoc]
    · right
      have e1 : ¬ ((j : Nat) : Int) < (x.Rows.length : Int) := by omega
      refine ⟨(l, 0), by simp only [J1C, e1, decide_false, Bool.false_eq_true, if_false, J3G, Option.map_some], ?_⟩
      rw [hs, List.take_of_length_le (by omega)]; rfl) (J0Z (x.Rows.length : Int) 2, 0) ⟨0, rfl, by omega, by simp [J3l]⟩
  simp only [J1U, J78 h, Option.bind_some, if_true, p0]
  exact ho
theorem get_at {s pre post : List UInt8} {n at_ : Int} {k : Nat} (hs : s = pre ++ (J0Z n k ++ post)) (ha : at_ = (pre.length : Int)) (h1 : 1 ≤ k) (h8 : k ≤ 8) (h0 : 0 ≤ n) (hn : n.toNat < 2 ^ (8 * k)) (hn2 : n < 2 ^ 63) (hl : s.length ≤ 1000) :
    J1M s at_ (k : Int) = some (n, 0) := by
  obtain ⟨m, rfl⟩ : ∃ m : Nat, n = (m : Int) := ⟨n.toNat, by omega⟩
  subst hs ha
  exact Jl0 pre post h1 h8 (by simpa using hn) (by omega) hl
theorem Jhw {x : T_api_Index} {j : Nat} (h : j < x.Rows.length) : J4w x = (J0Z (x.Rows.length : Int) 2 ++ J3l (x.Rows.take j)) ++ (J7q x.Rows[j] ++ J3l (x.Rows.drop (j + 1))) := by
  have e : x.Rows = x.Rows.take (j + 1) ++ x.Rows.drop (j + 1) := (List.take_append_drop _ _).symm
  have e2 : J3l x.Rows = J3l (x.Rows.take j) ++ (J7q x.Rows[j] ++ J3l (x.Rows.drop (j + 1))) := by
    rw [← List.append_assoc, ← Jeo, ← JaL, ← JaD h, ← JaL, ← e]
  unfold J4w
  rw [e2, List.append_assoc]
theorem JmS {x : T_api_Index} (hx : J6g x) (h5 : x.Rows.length ≤ 40) {j : Nat} (h : j < x.Rows.length) :
    J0c (j : Int) 0 (J4w x) = some x.Rows[j].LSN ∧ J0c (j : Int) 1 (J4w x) = some x.Rows[j].Image ∧ J0c (j : Int) 2 (J4w x) = some x.Rows[j].ImageLSN := by
  have hr := hx.rows _ (List.getElem_mem h)
  have hsp := Jhw h
  have hlen := JcI x
  generalize x.Rows[j] = r at hr hsp
  have hP : (J0Z (x.Rows.length : Int) 2 ++ J3l (x.Rows.take j)).length = 2 + 24 * j := by
    rw [List.length_append, J1I, J8K, List.length_take]; omega
  generalize J0Z (x.Rows.length : Int) 2 ++ J3l (x.Rows.take j) = P at hsp hP
  generalize J3l (x.Rows.drop (j + 1)) = Q at hsp
  have w : ∀ f : Nat, f ≤ 2 → IntKind.wrap .i64 ((IntKind.wrap .i64 (2 + (IntKind.wrap .i64 ((j : Int) * 24)))) + (IntKind.wrap .i64 (((f : Nat) : Int) * 8))) = 2 + 24 * (j : Int) + 8 * (f : Int) := by
    intro f hf
    rw [J2X (n := (j : Int) * 24) (by omega) (by omega), J2X (n := 2 + (j : Int) * 24) (by omega) (by omega), J2X (n := (f : Int) * 8) (by omega) (by omega), J2X (by omega) (by omega)]
    omega
  have l0 := hr.l0; have l1 := hr.l1; have i0 := hr.i0; have i1 := hr.i1; have m0 := hr.m0; have m1 := hr.m1
  have g0 : J1M (J4w x) (2 + 24 * (j : Int) + 8 * ((0 : Nat) : Int)) 8 = some (r.LSN, 0) := by
    refine get_at (pre := P) (post := (J0Z r.Image 8 ++ J0Z r.ImageLSN 8) ++ Q) (k := 8) ?_ (by omega) (by omega) (by omega) l0 (by omega) (by omega) (by omega)
    rw [hsp]; simp only [J7q, List.append_assoc]
  have g1 : J1M (J4w x) (2 + 24 * (j : Int) + 8 * ((1 : Nat) : Int)) 8 = some (r.Image, 0) := by
    refine get_at (pre := P ++ J0Z r.LSN 8) (post := J0Z r.ImageLSN 8 ++ Q) (k := 8) ?_ (by rw [List.length_append, J1I]; omega) (by omega) (by omega) i0 (by omega) (by omega) (by omega)
    rw [hsp]; simp only [J7q, List.append_assoc]
  have g2 : J1M (J4w x) (2 + 24 * (j : Int) + 8 * ((2 : Nat) : Int)) 8 = some (r.ImageLSN, 0) := by
    refine get_at (pre := P ++ (J0Z r.LSN 8 ++ J0Z r.Image 8)) (post := Q) (k := 8) ?_ (by rw [List.length_append, List.length_append, J1I, J1I]; omega) (by omega) (by omega) m0 (by omega) (by omega) (by omega)
    rw [hsp]; simp only [J7q, List.append_assoc]
  have w0 := w 0 (by omega); have w1 := w 1 (by omega); have w2 := w 2 (by omega)
  refine ⟨?_, ?_, ?_⟩
  · unfold J0c
    rw [show (0 : Int) = ((0 : Nat) : Int) from rfl, w0, g0]; rfl
  · unfold J0c
    rw [show (1 : Int) = ((1 : Nat) : Int) from rfl, w1, g1]; rfl
  · unfold J0c
    rw [show IntKind.wrap .i64 ((2 : Int) * 8) = IntKind.wrap .i64 (((2 : Nat) : Int) * 8) from rfl, w2, g2]; rfl
theorem Jld {l : List T_api_Row} {r : T_api_Row} (h : l.length ≤ 1000) : JfZ 24 l [r] = some (l ++ [r]) := by
  have e : J6a (l.length + [r].length) 24 = true := by
    simp only [J6a, List.length_cons, List.length_nil]
    simp; omega
  unfold JfZ
  rw [if_pos e]
theorem JfE {x : T_api_Index} (h : J6g x) (h5 : x.Rows.length ≤ 40) : J21 (J4w x) = some (x, 0) := by
  have n1 := h.n1
  have hlen := JcI x
  have g0 : J1M (J4w x) 0 2 = some (((x.Rows.length : Nat) : Int), 0) := by
    refine get_at (pre := []) (post := J3l x.Rows) (k := 2) rfl rfl (by omega) (by omega) (by omega) (by simp; omega) (by omega) (by omega)
  have w0 : IntKind.wrap .i64 (2 + (IntKind.wrap .i64 (((x.Rows.length : Nat) : Int) * 24))) = ((J4w x).length : Int) := by
    rw [J2X (n := ((x.Rows.length : Nat) : Int) * 24) (by omega) (by omega), J2X (by omega) (by omega)]; omega
  obtain ⟨o, ho, rfl⟩ := J7f (f := fun s : Int × List T_api_Row => J1D ((x.Rows.length : Nat) : Int) (J4w x) ([] : List T_api_Row) s.1 s.2)
    (fun s => ∃ j : Nat, s.1 = j ∧ j ≤ x.Rows.length ∧ s.2 = x.Rows.take j) (fun s => (x.Rows.length - s.1).toNat) (fun o => o = (x, 0)) (fun s ⟨j, hj, h4, hs⟩ => by
    obtain ⟨q, l⟩ := s
    simp only at hj hs
    subst hj
    by_cases hlt : j < x.Rows.length
    · left
      have e1 : ((j : Nat) : Int) < ((x.Rows.length : Nat) : Int) := by omega
      obtain ⟨a1, a2, a3⟩ := JmS h h5 hlt
      have hl : l.length ≤ 1000 := by rw [hs, List.length_take]; omega
      refine ⟨(((j + 1 : Nat) : Int), l ++ [x.Rows[j]]), ?_, ⟨j + 1, rfl, by omega, ?_⟩, by simp; omega⟩
      · simp only [J1D, e1, decide_true, if_true, a1, a2, a3, Option.bind_some, Jld hl, J88 (show j < 1000000 by omega)]
      · show l ++ [x.Rows[j]] = _
        rw [JaD hlt, hs]
    · right
      have e1 : ¬ ((j : Nat) : Int) < ((x.Rows.length : Nat) : Int) := by omega
      have e2 : l = x.Rows := by rw [hs, List.take_of_length_le (by omega)]
      refine ⟨(x, 0), ?_, rfl⟩
      simp only [J1D, e1, decide_false, Bool.false_eq_true, if_false, J3C, e2, J78 h, Option.bind_some, if_true, Option.map_some]) (0, []) ⟨0, rfl, by omega, by simp⟩
  have c0 : ((0 : Int) != 0) = false := rfl
  have c1 : ¬ (((J4w x).length : Nat) : Int) < (((J4w x).length : Nat) : Int) := by omega
  have c2 : ¬ (((J4w x).length : Nat) : Int) > (((J4w x).length : Nat) : Int) := by omega
  unfold J21
  simp only [g0, Option.bind_some, c0, Bool.false_eq_true, if_false, w0, c1, c2, decide_false]
  exact ho
end Go.Am
end
section
namespace Go.Am
set_option maxRecDepth 16000
theorem Jdh {l : List T_api_Row} (h : l.length ≤ 1000) : J0K l = some l := by
  have e : (2 * l.length + 512) * 24 ≤ 281474976710656 := by omega
  unfold J0K
  rw [if_pos e]
def J57 (n ref : Int) (k : Nat) : J6 := ⟨n, 7, 0, 0, 0, ref, ⟨(k : Int), 0, ⟨false, []⟩, ⟨false, []⟩⟩, []⟩
theorem Jgs {n ref : Int} {k : Nat} (h1 : 1 ≤ n) (h2 : n ≤ 1099511627776) (r0 : 0 ≤ ref) (r1 : ref < n) (hk : k < 64) : J3q (J57 n ref k) = some true := by
  have c1 : ¬ n < 1 := by omega
  have c2 : ¬ n > 1099511627776 := by omega
  have c3 : (0 : Int) < n := by omega
  have c4 : (k : Int) ≥ 0 := by omega
  have c5 : (k : Int) < 64 := by omega
  have c6 : ref ≥ 0 := r0
  simp [J3q, J57, c1, c2, J2v, c3, r0, r1, J47, J4D, J4K, J4G, J1z, J33, c5]
def J3E (ref : Int) (r : T_api_Row) : T_api_Row := ⟨J7X r.LSN ref, r.Image, r.ImageLSN⟩
def J69 (i m : Int) (r : T_api_Row) : T_api_Row := ⟨r.LSN, i, m⟩
theorem JdD {α : Type} {l : List α} {k : Nat} (h : k < l.length) (f : α → α) : l.set k (f l[k]) = l.modify k f := by
  apply List.ext_getElem?
  intro j
  rw [List.getElem?_modify]
  by_cases hj : k = j
  · subst hj
    rw [List.getElem?_set_self h, List.getElem?_eq_getElem h]; simp
  · rw [List.getElem?_set_ne hj]; simp [hj]
theorem JcK {r : T_api_Row} {ref : Int} (h : J4F r) (r0 : 0 ≤ ref) (r1 : ref ≤ 1099511627776) : J4F (J3E ref r) := by
  have e : 0 ≤ J7X r.LSN ref ∧ J7X r.LSN ref ≤ 1099511627776 := by
    have := h.l0; have := h.l1
    unfold J7X
    split <;> omega
  exact ⟨e.1, e.2, h.i0, h.i1, h.m0, h.m1, h.im⟩
theorem JhV {r : T_api_Row} {i m : Int} (h : J4F r) (i0 : 1 ≤ i) (i1 : i ≤ 1099511627776) (m0 : 0 ≤ m) (m1 : m ≤ 1099511627776) : J4F (J69 i m r) :=
  ⟨h.l0, h.l1, by show 0 ≤ i; omega, i1, m0, m1, fun e => by have e' : i = 0 := e; omega⟩
theorem J85 {x : T_api_Index} (h : J6g x) {k : Nat} (hk : k < x.Rows.length) {f : T_api_Row → T_api_Row} (hf : ∀ r, J4F r → J4F (f r)) : J6g ⟨x.Rows.modify k f⟩ := by
  refine ⟨by simpa using h.n1, by simpa using h.n2, ?_⟩
  show J9j (x.Rows.modify k f)
  rw [← JdD hk]
  exact JcC h.rows (hf _ (h.rows _ (List.getElem_mem hk)))
theorem Jg1 {x : T_api_Index} {k : Nat} (hk : k < x.Rows.length) : J1j x (k : Int) = some true := by
  have c1 : (k : Int) ≥ 0 := by omega
  have c2 : (k : Int) < ((x.Rows.length : Nat) : Int) := by omega
  simp only [J1j, c1, c2, decide_true, if_true]
theorem J6q {x : T_api_Index} (h : J6g x) {n ref : Int} {k : Nat} (h1 : 1 ≤ n) (h2 : n ≤ 1099511627776) (r0 : 0 ≤ ref) (r1 : ref < n) (hk : k < x.Rows.length) :
    J0n x (J57 n ref k) = some (⟨x.Rows.modify k (J3E ref)⟩, 0) := by
  have h64 := h.n2
  have a1 := Jgs h1 h2 r0 r1 (k := k) (by omega)
  have a2 : J1j x (J57 n ref k).Change.Page = some true := Jg1 hk
  have a3 : J04 x (J57 n ref k).Change.Page (J57 n ref k) = some ⟨x.Rows.modify k (J3E ref)⟩ := by
    show J04 x (k : Int) (J57 n ref k) = _
    have e : J2W x.Rows[k] (J57 n ref k) = some (J3E ref x.Rows[k]) := rfl
    simp only [J04, Jdh (show x.Rows.length ≤ 1000 by omega), Option.bind_some, J77 hk, e, Int.toNat_natCast, JdD hk]
  have d : ((J57 n ref k).Kind != 7) = false := rfl
  simp only [J0n, J78 h, a1, d, a2, a3, Option.bind_some, if_true, Bool.false_eq_true, if_false]
theorem JfU {x : T_api_Index} (h : J6g x) {i m : Int} {k : Nat} (i0 : 1 ≤ i) (i1 : i ≤ 1099511627776) (m0 : 0 ≤ m) (m1 : m ≤ 1099511627776) (hk : k < x.Rows.length) :
    J0E x (k : Int) i m = some (⟨x.Rows.modify k (J69 i m)⟩, 0) := by
  have h64 := h.n2
  have a3 : JV x (k : Int) i m = some ⟨x.Rows.modify k (J69 i m)⟩ := by
    have e : J28 x.Rows[k] i m = some (J69 i m x.Rows[k]) := rfl
    simp only [JV, Jdh (show x.Rows.length ≤ 1000 by omega), Option.bind_some, J77 hk, e, Int.toNat_natCast, JdD hk]
  have d : (i == 0) = false := by
    have : i ≠ 0 := by omega
    simpa using this
  simp only [J0E, J78 h, Jg1 hk, J68 (show 0 ≤ i by omega) i1, J68 m0 m1, d, a3, Option.bind_some, if_true, Bool.false_eq_true, if_false]
theorem Jgt : J3p = some true := by
  have z := Jhf (n := 2) (by omega) (by omega)
  have a1 : J2e 2 = some (⟨List.replicate 2 ⟨0, 0, 0⟩⟩, 0) := Jik (n := 2) (by omega) (by omega)
  have a2 := J6q z (n := 9) (ref := 5) (k := 1) (by omega) (by omega) (by omega) (by omega) (by simp)
  have z2 := J85 z (k := 1) (by simp) (f := J3E 5) (fun r hr => JcK hr (by omega) (by omega))
  have a3 := J6q z2 (n := 10) (ref := 3) (k := 1) (by omega) (by omega) (by omega) (by omega) (by simp)
  have e : (List.modify (List.modify (List.replicate 2 (⟨0, 0, 0⟩ : T_api_Row)) 1 (J3E 5)) 1 (J3E 3)) = [⟨0, 0, 0⟩, ⟨5, 0, 0⟩] := by decide +kernel
  rw [e] at a3
  have d0 : ((0 : Int) == 0) = true := rfl
  have d1 : ((([(⟨0, 0, 0⟩ : T_api_Row), ⟨5, 0, 0⟩].length : Nat) : Int) == 2) = true := rfl
  have d2 : idx [(⟨0, 0, 0⟩ : T_api_Row), ⟨5, 0, 0⟩] 1 = some ⟨5, 0, 0⟩ := rfl
  unfold J3p
  simp only [a1, Option.bind_some]
  have a2' : J0n (⟨List.replicate 2 ⟨0, 0, 0⟩⟩ : T_api_Index) (⟨9, 7, 0, 0, 0, 5, (⟨1, 0, (⟨false, ([] : List UInt8)⟩ : Jg), (⟨false, ([] : List UInt8)⟩ : Jg)⟩ : Jf), ([] : List UInt8)⟩ : J6) = _ := a2
  rw [a2']
  simp only [Option.bind_some]
  have a3' : J0n (⟨(List.replicate 2 (⟨0, 0, 0⟩ : T_api_Row)).modify 1 (J3E 5)⟩ : T_api_Index) (⟨10, 7, 0, 0, 0, 3, (⟨1, 0, (⟨false, ([] : List UInt8)⟩ : Jg), (⟨false, ([] : List UInt8)⟩ : Jg)⟩ : Jf), ([] : List UInt8)⟩ : J6) = _ := a3
  rw [a3']
  simp only [Option.bind_some, d0, if_true, d1, d2]
  rfl
theorem Jhr (a b c : Int) : J7X (J7X a b) c = J7X (J7X a c) b := by
  unfold J7X
  (repeat' split) <;> omega
theorem Jh5 {α : Type} (l : List α) (k j : Nat) (f : α → α) : (l.modify k f)[j]? = if k = j then (l[j]?).map f else l[j]? := by
  rw [List.getElem?_modify]
  split
  · rfl
  · simp
theorem JjP {x : T_api_Index} (h : J6g x) {i m r1 r2 : Int} {k : Nat} (i0 : 1 ≤ i) (i1 : i ≤ 1099511627776) (m0 : 0 ≤ m) (m1 : m ≤ 1099511627776)
    (p0 : 0 ≤ r1) (p1 : r1 < 90) (q0 : 0 ≤ r2) (q1 : r2 < 90) (hk : k < x.Rows.length) (turn : Bool) :
    J14 i m x (J57 90 r1 0) (J57 91 r2 k) (if turn = true then J57 91 r2 k else J57 90 r1 0) (if turn = true then J57 90 r1 0 else J57 91 r2 k) = some true := by
  have hn1 := h.n1
  have f1 : ∀ r, J4F r → J4F (J3E r1 r) := fun r hr => JcK hr p0 (by omega)
  have f2 : ∀ r, J4F r → J4F (J3E r2 r) := fun r hr => JcK hr q0 (by omega)
  have f3 : ∀ r, J4F r → J4F (J69 i m r) := fun r hr => JhV hr i0 i1 m0 m1
  have a1 := J6q h (n := 90) (ref := r1) (k := 0) (by omega) (by omega) p0 p1 (by omega)
  have h1 := J85 h (k := 0) (by omega) f1
  have a2 := J6q h1 (n := 91) (ref := r2) (k := k) (by omega) (by omega) q0 (by omega) (by simpa using hk)
  have h2 := J85 h1 (k := k) (by simpa using hk) f2
  have a3 : J0E _ 0 i m = _ := JfU h2 (k := 0) i0 i1 m0 m1 (by simp; omega)
  have a4 : J0E _ 0 i m = _ := JfU h (k := 0) i0 i1 m0 m1 (by omega)
  have h4 := J85 h (k := 0) (by omega) f3
  have h3 := J85 h2 (k := 0) (by simp; omega) f3
  have d0 : ((0 : Int) == 0) = true := rfl
  have hsame := Jdi _ h3.n2
  unfold J14
  simp only [a1, a2, a3, a4, Option.bind_some]
  cases turn with
  | false =>
    have a5 := J6q h4 (n := 90) (ref := r1) (k := 0) (by omega) (by omega) p0 p1 (by simp; omega)
    have h5 := J85 h4 (k := 0) (by simp; omega) f1
    have a6 := J6q h5 (n := 91) (ref := r2) (k := k) (by omega) (by omega) q0 (by omega) (by simpa using hk)
    have e : List.modify (List.modify (List.modify x.Rows 0 (J69 i m)) 0 (J3E r1)) k (J3E r2) = List.modify (List.modify (List.modify x.Rows 0 (J3E r1)) k (J3E r2)) 0 (J69 i m) := by
      apply List.ext_getElem?
      intro j
      simp only [Jh5]
      by_cases h0 : 0 = j <;> by_cases hj : k = j <;> simp only [h0, hj, if_true, if_false] <;> cases x.Rows[j]? <;> rfl
    simp only [Bool.false_eq_true, if_false, a5, a6, Option.bind_some, d0, if_true, e, hsame]
  | true =>
    have a5 := J6q h4 (n := 91) (ref := r2) (k := k) (by omega) (by omega) q0 (by omega) (by simpa using hk)
    have h5 := J85 h4 (k := k) (by simpa using hk) f2
    have a6 := J6q h5 (n := 90) (ref := r1) (k := 0) (by omega) (by omega) p0 p1 (by simp; omega)
    have e : List.modify (List.modify (List.modify x.Rows 0 (J69 i m)) k (J3E r2)) 0 (J3E r1) = List.modify (List.modify (List.modify x.Rows 0 (J3E r1)) k (J3E r2)) 0 (J69 i m) := by
      apply List.ext_getElem?
      intro j
      simp only [Jh5]
      by_cases h0 : 0 = j <;> by_cases hj : k = j <;> simp only [h0, hj, if_true, if_false] <;> cases x.Rows[j]? <;> first | rfl | (simp only [Option.map_some, J3E, J69, Jhr])
    simp only [if_true, a5, a6, Option.bind_some, d0, e, hsame]
theorem J8l {l : List Int} {turn : Bool} {q : Prop} (h : List.length l ≤ maxLen ∧ ∀ x ∈ l, 0 ≤ x ∧ x ≤ 255) (_ : q) : J1W l turn = some true := by
  obtain ⟨b0, a1, hb0⟩ := Jlj h (n := 100) (by omega)
  have a1' : J4n l 100 = some b0 := a1
  obtain ⟨x, b1, a2, hb1, hx, h5, _⟩ := Jhz hb0
  have n1 := hx.n1
  obtain ⟨r1, b2, a3, hb2, p0, p1⟩ := J5i hb1 (n := 80) (by omega) (by omega)
  obtain ⟨r2, b3, a4, hb3, q0, q1⟩ := J5i hb2 (n := 80) (by omega) (by omega)
  obtain ⟨k, b4, a5, hb4, k0, k1⟩ := J5i hb3 (n := ((x.Rows.length : Nat) : Int)) (by omega) (by omega)
  obtain ⟨i, b5, a6, hb5, i0, i1⟩ := J5i hb4 (n := 9) (by omega) (by omega)
  obtain ⟨m, b6, a7, hb6, m0, m1⟩ := J5i hb5 (n := 50) (by omega) (by omega)
  obtain ⟨k, rfl⟩ : ∃ j : Nat, k = (j : Int) := ⟨k.toNat, by omega⟩
  have c0 : ((0 : Int) != 0) = false := rfl
  have hlen := JcI x
  have w : IntKind.wrap .i64 (2 + (IntKind.wrap .i64 (24 * ((x.Rows.length : Nat) : Int)))) = (((J4w x).length : Nat) : Int) := by
    rw [J2X (n := 24 * ((x.Rows.length : Nat) : Int)) (by omega) (by omega), J2X (by omega) (by omega)]; omega
  have w2 : IntKind.wrap .i64 (1 + i) = 1 + i := J2X (by omega) (by omega)
  have key := JjP hx (i := 1 + i) (m := m) (r1 := r1) (r2 := r2) (k := k) (by omega) (by omega) m0 (by omega) p0 (by omega) q0 (by omega) (by omega) turn
  unfold J1W
  simp only [Jgt, if_true, a1', a2, JfO hx, JfE hx (show x.Rows.length ≤ 40 by omega), Jdi x hx.n2, Option.bind_some, c0, Bool.false_eq_true, if_false, w, bne_self_eq_false, a3, a4, a5, a6, a7, w2]
  cases turn with
  | false => exact key
  | true => exact key
end Go.Am
end
section
namespace Go.Am
section
variable (P : Program)
def J6R : Nat → TypeId → Bool
  | 0, _ => false
  | n + 1, t => match P.underlying t with
    | some .bool => true
    | some (.int _) => true
    | some .string => true
    | some (.slice e) => J6R n e && decide (t < P.types.size ∧ 0 < P.cellsOf e)
    | some (.struct fs) => fs.toList.all (fun f => J6R n f.type) && decide (t < P.types.size)
    | some (.array _ e) => J6R n e && decide (t < P.types.size)
    | _ => false
def J6j : Nat → TypeId → List PV → Prop
  | 0, _, _ => False
  | n + 1, t, pvs => match P.underlying t with
    | some .bool => ∃ b, pvs = [.b b]
    | some (.int k) => ∃ z, pvs = [.i k z] ∧ (Lit.int k z).wf = true
    | some .string => ∃ l, pvs = [.s l] ∧ l.length ≤ maxLen
    | some (.slice e) => ∃ rows, pvs = [.sl (P.cellsOf e) rows] ∧ rows.length ≤ maxLen ∧ ∀ row ∈ rows, row.length = P.cellsOf e ∧ J6j n e row
    | some (.struct fs) => pvs.length = P.cellsOf t ∧ ∀ f ∈ fs.toList, J6j n f.type ((pvs.drop f.offset).take (P.cellsOf f.type))
    | some (.array m e) => pvs.length = P.cellsOf t ∧ ∀ i, i < m → J6j n e ((pvs.drop (i * P.cellsOf e)).take (P.cellsOf e))
    | _ => False
end
section
variable {H : Type} {enc : TypeId × Value → H} {P : Program} {w : World} {base : Nat} {sp : Nat → Bool} {held : Bool}
def Jhp (w : World) (pvs : List PV) (cs : List Value) : Prop :=
  pvs.length = cs.length ∧ ∀ (i : Nat) p v, pvs[i]? = some p → cs[i]? = some v → J01 w (fun r _ => r < w.heap.size) p v
theorem Jee {a : Addr} {v : Value} (h : w.cell? a = some v) : a.spot = none ∧ J0h w a.block a.off = some v ∧ a.block < w.heap.size := by
  unfold World.cell? at h
  unfold J0h
  split at h
  · rename_i c t fz hb
    split at h
    · cases h
    · rename_i hs
      refine ⟨by simpa using hs, by rw [hb]; exact h, ?_⟩
      have := Array.getElem?_eq_some_iff.1 hb
      exact this.1
  · cases h
theorem Jk8 {a : Addr} {n : Nat} {cs : List Value} (h : w.cells? base a n = some cs) : cs.length = n ∧ ∀ i v, cs[i]? = some v → w.cell? (a.add i) = some v := by
  unfold World.cells? at h
  split at h
  · have hl := mapM_some_length h
    refine ⟨by simpa using hl, fun i v hv => ?_⟩
    have hi : i < n := by
      have := (List.getElem?_eq_some_iff.1 hv).1
      simp at hl; omega
    have := mapM_some_get h i i (by simp [hi])
    rw [this, hv]
  · cases h
theorem Jdp {α : Type} (Q : Nat → α → Prop) : ∀ (m : Nat), (∀ i, i < m → ∃ x, Q i x) → ∃ xs : List α, xs.length = m ∧ ∀ i x, xs[i]? = some x → Q i x
  | 0, _ => ⟨[], rfl, fun i x h => by simp at h⟩
  | m + 1, h => by
    obtain ⟨xs, hl, hx⟩ := Jdp Q m (fun i hi => h i (by omega))
    obtain ⟨y, hy⟩ := h m (by omega)
    refine ⟨xs ++ [y], by simp [hl], fun i x hi => ?_⟩
    rcases Nat.lt_or_ge i xs.length with hlt | hge
    · rw [List.getElem?_append_left hlt] at hi; exact hx i x hi
    · rw [List.getElem?_append_right hge] at hi
      have : i - xs.length = 0 := by
        have := (List.getElem?_eq_some_iff.1 hi).1
        simp at this; omega
      rw [this] at hi
      simp at hi; subst hi
      obtain rfl : i = m := by omega
      exact hy
theorem JaF {α : Type} : ∀ (xs : List (List α)) (j : Nat) (y : List α), xs[j]? = some y → (xs.flatten.drop ((xs.take j).map List.length).sum).take y.length = y
  | [], j, y, h => by simp at h
  | x :: xs, 0, y, h => by simp at h; subst h; simp
  | x :: xs, j + 1, y, h => by
    simp at h
    have := JaF xs j y h
    simp only [List.take_succ_cons, List.map_cons, List.sum_cons, List.flatten_cons, List.drop_length_add_append]
    exact this
theorem Jlt (hl : laidOutB P = true) (hm : mapsRowed P = true) : ∀ (n : Nat) (t : TypeId) (cs : List Value) (x : DataW H × List MemPlace) (fuel : Nat), J6R P n t = true → DataW.trod enc P w base sp held fuel t cs = some x →
    ∃ pvs, J6j P n t pvs ∧ Jhp w pvs cs := by
  have K := kids_rows hl hm
  intro n
  induction n with
  | zero => intro t cs x fuel hp; simp [J6R] at hp
  | succ n ih =>
    intro t cs x fuel hp h
    unfold J6R at hp
    unfold J6j
    split at hp
    · rename_i ht
      obtain ⟨b, rfl, _⟩ := DataW.trod_bool ht h
      refine ⟨[.b b], by simp, rfl, fun i p v h1 h2 => ?_⟩
      match i with
      | 0 => simp at h1 h2; subst h1 h2; exact .b _
      | i + 1 => simp at h1
    · rename_i k ht
      obtain ⟨z, rfl, _, hwf⟩ := DataW.trod_int ht h
      refine ⟨[.i k z], by simpa using hwf, rfl, fun i p v h1 h2 => ?_⟩
      match i with
      | 0 => simp at h1 h2; subst h1 h2; exact .i _ _
      | i + 1 => simp at h1
    · rename_i ht
      obtain ⟨s, rfl, _, hsz⟩ := DataW.trod_string ht h
      refine ⟨[.s s.data.toList], ⟨_, rfl, by rw [Array.length_toList]; exact hsz⟩, rfl, fun i p v h1 h2 => ?_⟩
      match i with
      | 0 => simp at h1 h2; subst h1 h2; exact .s _
      | i + 1 => simp at h1
    · rename_i e ht
      simp only [Bool.and_eq_true, decide_eq_true_eq] at hp
      rcases DataW.trod_slice ht h with ⟨rfl, _⟩ | ⟨a, len, cap, elems, rest, n0, _, rfl, _, _, hlc, hcm, hel, hat, _⟩
      · refine ⟨[.sl (P.cellsOf e) []], ⟨[], rfl, Nat.zero_le _, by simp⟩, rfl, fun i p v h1 h2 => ?_⟩
        match i with
        | 0 => simp at h1 h2; subst h1 h2; exact .sl0 _ _ _
        | i + 1 => simp at h1
      ·
        have hrow : ∀ i, i < len → ∃ row : List PV, (row.length = P.cellsOf e ∧ J6j P n e row) ∧ ∀ j p, row[j]? = some p → ∃ v, w.cell? (a.add (i * P.cellsOf e) |>.add j) = some v ∧ J01 w (fun r _ => r < w.heap.size) p v := by
          intro i hi
          have h1 := hat i hi
          have h2 : ∃ y, elems[i]? = some y := ⟨_, List.getElem?_eq_getElem (by omega)⟩
          obtain ⟨y, hy⟩ := h2
          rw [hy, Option.bind_eq_some_iff] at h1
          obtain ⟨cs', hc, ht'⟩ := h1
          obtain ⟨row, q1, q2, q3⟩ := ih e cs' y n0 hp.1 ht'
          obtain ⟨c1, c2⟩ := Jk8 hc
          refine ⟨row, ⟨by omega, q1⟩, fun j p hj => ?_⟩
          have hlt : j < cs'.length := by have := (List.getElem?_eq_some_iff.1 hj).1; omega
          have hv := List.getElem?_eq_getElem hlt
          exact ⟨_, c2 j _ hv, q3 j p _ hj hv⟩
        obtain ⟨rows, hrl, hrows⟩ := Jdp _ len hrow
        refine ⟨[.sl (P.cellsOf e) rows], ⟨rows, rfl, by omega, fun row hr => ?_⟩, rfl, fun i p v h1 h2 => ?_⟩
        · obtain ⟨i, hi⟩ := List.getElem?_of_mem hr
          exact (hrows i row hi).1
        match i with
        | i + 1 => simp at h1
        | 0 =>
          simp at h1 h2; subst h1 h2
          by_cases h0 : ∃ (i j : Nat) (row : List PV) (p : PV), rows[i]? = some row ∧ row[j]? = some p
          · obtain ⟨i0, j0, row0, p0, hr0, hp0⟩ := h0
            have spot : a.spot = none ∨ P.cellsOf e = 0 := by
              rcases Nat.eq_zero_or_pos (P.cellsOf e) with hz | hpos
              · exact .inr hz
              · have hlen : 0 < len := by have := (List.getElem?_eq_some_iff.1 hr0).1; omega
                have hr00 := List.getElem?_eq_getElem (l := rows) (i := 0) (by omega)
                have q := hrows 0 _ hr00
                have hj0 := List.getElem?_eq_getElem (l := rows[0]'(by omega)) (i := 0) (by omega)
                obtain ⟨v, hv, _⟩ := q.2 0 _ hj0
                rw [Nat.zero_mul] at hv
                exact .inl (by simpa [Addr.add] using (Jee hv).1)
            rcases spot with spot | hz
            · have cell : ∀ (i j : Nat) (row : List PV) (p : PV), rows[i]? = some row → row[j]? = some p → ∃ v, (a.block < w.heap.size ∧ J0h w a.block (a.off + i * P.cellsOf e + j) = some v) ∧ J01 w (fun r _ => r < w.heap.size) p v := by
                intro i j row p hi hj
                obtain ⟨v, hv, hr⟩ := (hrows i row hi).2 j p hj
                obtain ⟨s1, s2, s3⟩ := Jee hv
                refine ⟨v, ?_, hr⟩
                have e1 : ((a.add (i * P.cellsOf e)).add j).block = a.block := by unfold Addr.add; split <;> split <;> rfl
                have e2 : ((a.add (i * P.cellsOf e)).add j).off = a.off + i * P.cellsOf e + j := by
                  unfold Addr.add
                  split <;> split <;> simp_all
                rw [e1] at s3
                rw [e1, e2] at s2
                exact ⟨s3, s2⟩
              have ea : a = ⟨a.block, a.off, none⟩ := by cases a; simp_all
              rw [ea, ← hrl]
              refine .sl _ rows a.block a.off cap (fun i j => ((J0h w a.block (a.off + i * P.cellsOf e + j)).getD default)) (by omega) (fun row hr => ?_) (fun i j row p hi hj => ?_) (fun i j row p hi hj => ?_)
              · obtain ⟨i, hi⟩ := List.getElem?_of_mem hr
                exact (hrows i row hi).1.1
              · obtain ⟨v, ⟨h3, h4⟩, _⟩ := cell i j row p hi hj
                exact ⟨h3, by rw [h4]; rfl⟩
              · obtain ⟨v, ⟨h3, h4⟩, h5⟩ := cell i j row p hi hj
                rw [h4]; exact h5
            · have := (hrows i0 row0 hr0).1.1
              have := (List.getElem?_eq_some_iff.1 hp0).1
              omega
          ·
            rcases Nat.eq_zero_or_pos len with hz | hpos
            · have : rows = [] := by cases rows <;> simp_all
              subst this
              subst hz
              exact .sl0 _ _ _
            · exfalso
              have hr00 := List.getElem?_eq_getElem (l := rows) (i := 0) (by omega)
              have q := (hrows 0 _ hr00).1.1
              exact h0 ⟨0, 0, _, _, hr00, List.getElem?_eq_getElem (by omega)⟩
    · rename_i fs ht
      simp only [Bool.and_eq_true, decide_eq_true_eq, List.all_eq_true] at hp
      obtain ⟨xs, n0, _, _, hcl, hxl, hat⟩ := DataW.trod_struct ht h
      obtain ⟨_, ksum, koff⟩ := K.struct hp.2 ht
      have hf : ∀ i, i < fs.toList.length → ∃ ys : List PV, ∀ f, fs.toList[i]? = some f → J6j P n f.type ys ∧ Jhp w ys ((cs.drop f.offset).take (P.cellsOf f.type)) := by
        intro i hi
        have hfi := List.getElem?_eq_getElem hi
        have hmem := List.mem_of_getElem? hfi
        have hfa : fs[i]? = some (fs.toList[i]) := by rw [← Array.getElem?_toList]; exact hfi
        have h1 := hat i _ hfa
        have h2 : ∃ y, xs[i]? = some y := ⟨_, List.getElem?_eq_getElem (by simpa [hxl] using hi)⟩
        obtain ⟨y, hy⟩ := h2
        rw [hy] at h1
        obtain ⟨ys, q1, q2⟩ := ih _ _ _ _ (hp.1 _ hmem) h1
        refine ⟨ys, fun f hff => ?_⟩
        rw [hfi] at hff; injection hff with hff; subst hff
        exact ⟨q1, q2⟩
      obtain ⟨yss, hyl, hys⟩ := Jdp _ _ hf
      have hlen : ∀ (j : Nat) (f : Field), fs.toList[j]? = some f → ∀ ys : List PV, yss[j]? = some ys → ys.length = P.cellsOf f.type := by
        intro j f hj ys hy
        have q := (hys j ys hy f hj).2.1
        have o := koff j f hj
        rw [q, List.length_take, List.length_drop, hcl, ksum, o]
        have : ((fs.toList.take j).map fun f => P.cellsOf f.type).sum + P.cellsOf f.type ≤ (fs.toList.map fun f => P.cellsOf f.type).sum := by
          have e1 : fs.toList = fs.toList.take j ++ (f :: fs.toList.drop (j + 1)) := by
            have hjl := (List.getElem?_eq_some_iff.1 hj)
            obtain ⟨hjl, he⟩ := hjl
            rw [← he, ← List.drop_eq_getElem_cons hjl, List.take_append_drop]
          conv => rhs; rw [e1]
          simp only [List.map_append, List.map_cons, List.sum_append, List.sum_cons]
          omega
        omega
      have hmapl : yss.map List.length = fs.toList.map fun f => P.cellsOf f.type := by
        apply List.ext_getElem?
        intro j
        rw [List.getElem?_map, List.getElem?_map]
        cases hy : yss[j]? with
        | none =>
          have : fs.toList[j]? = none := by rw [List.getElem?_eq_none_iff] at hy ⊢; omega
          rw [this]; rfl
        | some ys =>
          have hj : j < fs.toList.length := by have := (List.getElem?_eq_some_iff.1 hy).1; omega
          have hfj := List.getElem?_eq_getElem hj
          rw [hfj]
          simp only [Option.map_some]
          rw [hlen j _ hfj ys hy]
      have hoff : ∀ (j : Nat) (f : Field), fs.toList[j]? = some f → ((yss.take j).map List.length).sum = f.offset := by
        intro j f hj
        rw [koff j f hj, List.map_take, hmapl, ← List.map_take]
      refine ⟨yss.flatten, ⟨?_, fun f hf => ?_⟩, ?_, fun i p v h1 h2 => ?_⟩
      · rw [List.length_flatten, hmapl, ksum]
      · obtain ⟨j, hj⟩ := List.getElem?_of_mem hf
        have hjl : j < yss.length := by have := (List.getElem?_eq_some_iff.1 hj).1; omega
        have hyj := List.getElem?_eq_getElem hjl
        have := JaF yss j _ hyj
        rw [hoff j f hj, hlen j f hj _ hyj] at this
        rw [this]
        exact (hys j _ hyj f hj).1
      · rw [List.length_flatten, hmapl, hcl, ksum]
      ·
        have key : ∀ (l : List (List PV)) (i : Nat) p, l.flatten[i]? = some p → ∃ j ys k, l[j]? = some ys ∧ ys[k]? = some p ∧ i = ((l.take j).map List.length).sum + k := by
          intro l
          induction l with
          | nil => intro i p h; simp at h
          | cons y l ihl =>
            intro i p h
            rw [List.flatten_cons] at h
            rcases Nat.lt_or_ge i y.length with hlt | hge
            · rw [List.getElem?_append_left hlt] at h
              exact ⟨0, y, i, rfl, h, by simp⟩
            · rw [List.getElem?_append_right hge] at h
              obtain ⟨j, ys, k, a1, a2, a3⟩ := ihl _ _ h
              exact ⟨j + 1, ys, k, by simpa using a1, a2, by simp only [List.take_succ_cons, List.map_cons, List.sum_cons]; omega⟩
        obtain ⟨j, ys, k, a1, a2, a3⟩ := key _ _ _ h1
        have hj : j < fs.toList.length := by have := (List.getElem?_eq_some_iff.1 a1).1; omega
        have hfj := List.getElem?_eq_getElem hj
        have q := (hys j ys a1 _ hfj).2
        refine q.2 k p v a2 ?_
        have hk : k < P.cellsOf (fs.toList[j]).type := by have := (List.getElem?_eq_some_iff.1 a2).1; rw [hlen j _ hfj ys a1] at this; exact this
        rw [List.getElem?_take_of_lt hk, List.getElem?_drop, ← hoff j _ hfj, ← a3]
        exact h2
    · rename_i m e ht
      simp only [Bool.and_eq_true, decide_eq_true_eq] at hp
      obtain ⟨xs, n0, _, _, hcl, hxl, hat⟩ := DataW.trod_array ht h
      obtain ⟨_, ksz⟩ := K.array hp.2 ht
      have hf : ∀ i, i < m → ∃ ys : List PV, J6j P n e ys ∧ Jhp w ys ((cs.drop (i * P.cellsOf e)).take (P.cellsOf e)) := by
        intro i hi
        have h1 := hat i hi
        have h2 : ∃ y, xs[i]? = some y := ⟨_, List.getElem?_eq_getElem (by omega)⟩
        obtain ⟨y, hy⟩ := h2
        rw [hy] at h1
        exact ih _ _ _ _ hp.1 h1
      obtain ⟨yss, hyl, hys⟩ := Jdp _ _ hf
      have hlen : ∀ (j : Nat) ys, yss[j]? = some ys → ys.length = P.cellsOf e := by
        intro j ys hy
        have q := (hys j ys hy).2.1
        have hj : j < m := by have := (List.getElem?_eq_some_iff.1 hy).1; omega
        rw [q, List.length_take, List.length_drop, hcl, ksz]
        have : j * P.cellsOf e + P.cellsOf e ≤ m * P.cellsOf e := by rw [← Nat.succ_mul]; exact Nat.mul_le_mul_right _ hj
        omega
      have hall : ∀ y ∈ yss, y.length = P.cellsOf e := fun y hy => by
        obtain ⟨j, hj⟩ := List.getElem?_of_mem hy
        exact hlen j y hj
      have hsum : ∀ l : List (List PV), (∀ y ∈ l, y.length = P.cellsOf e) → (l.map List.length).sum = l.length * P.cellsOf e := by
        intro l
        induction l with
        | nil => intro _; simp
        | cons y l ihl => intro hh; simp [hh y (by simp), ihl (fun z hz => hh z (by simp [hz])), Nat.succ_mul, Nat.add_comm]
      have hoff : ∀ j, j ≤ m → ((yss.take j).map List.length).sum = j * P.cellsOf e := by
        intro j hj
        rw [hsum _ (fun y hy => hall y (List.mem_of_mem_take hy)), List.length_take, hyl, Nat.min_eq_left hj]
      refine ⟨yss.flatten, ⟨?_, fun j hj => ?_⟩, ?_, fun i p v h1 h2 => ?_⟩
      · rw [List.length_flatten, hsum _ hall, hyl, ksz]
      · have hyj := List.getElem?_eq_getElem (l := yss) (i := j) (by omega)
        have := JaF yss j _ hyj
        rw [hoff j (by omega), hlen j _ hyj] at this
        rw [this]
        exact (hys j _ hyj).1
      · rw [List.length_flatten, hsum _ hall, hcl, hyl, ksz]
      · have key : ∀ (l : List (List PV)) (i : Nat) p, l.flatten[i]? = some p → ∃ j ys k, l[j]? = some ys ∧ ys[k]? = some p ∧ i = ((l.take j).map List.length).sum + k := by
          intro l
          induction l with
          | nil => intro i p h; simp at h
          | cons y l ihl =>
            intro i p h
            rw [List.flatten_cons] at h
            rcases Nat.lt_or_ge i y.length with hlt | hge
            · rw [List.getElem?_append_left hlt] at h
              exact ⟨0, y, i, rfl, h, by simp⟩
            · rw [List.getElem?_append_right hge] at h
              obtain ⟨j, ys, k, a1, a2, a3⟩ := ihl _ _ h
              exact ⟨j + 1, ys, k, by simpa using a1, a2, by simp only [List.take_succ_cons, List.map_cons, List.sum_cons]; omega⟩
        obtain ⟨j, ys, k, a1, a2, a3⟩ := key _ _ _ h1
        have hj : j < m := by have := (List.getElem?_eq_some_iff.1 a1).1; omega
        have q := (hys j ys a1).2
        refine q.2 k p v a2 ?_
        have hk : k < P.cellsOf e := by have := (List.getElem?_eq_some_iff.1 a2).1; rw [hlen j ys a1] at this; exact this
        rw [List.getElem?_take_of_lt hk, List.getElem?_drop, ← hoff j (by omega), ← a3]
        exact h2
    · cases hp
end
end Go.Am
end
section
namespace Go.Am
open Go.ChangeShapes Go.WideShapes Go.ChangeAt Go.RowKit
def gh0 (w : World) : Gh := ⟨fun _ => none, fun r _ => r < w.heap.size⟩
theorem JdU (g : Gh) (w : World) (b r o : Nat) : ¬ Wr1 ⟨[], g, w⟩ b r o := by
  unfold Wr1; simp
theorem JnJ (w : World) : Inv ⟨[], gh0 w, w⟩ where
  box := fun b cs h => by simp at h
  arr := fun b wm esz rows h => by simp at h
  apart := fun b1 b2 r o h => absurd h (JdU _ _ _ _ _)
  const := fun r o h => ⟨h, fun b => JdU _ _ _ _ _⟩
def J8B (w w' : World) : Prop := J8b (fun _ _ => False) w w'
theorem J8B.kept {w w' : World} (h : J8B w w') (may : MemPlace → Prop) : w.keptBut w' may := by
  obtain ⟨h1, h2, h3, h4, h5⟩ := h
  refine ⟨h4, h5, fun i hi => ?_⟩
  have hg := Array.getElem?_eq_getElem hi
  cases hw : w.heap[i]? with
  | none => rw [hg] at hw; cases hw
  | some x =>
    cases x with
    | cells c e fz =>
      obtain ⟨c', q1, q2, q3⟩ := h2 i c e fz hw
      rw [q1]
      exact ⟨rfl, rfl, q2, fun j _ => q3 j (fun hf => hf)⟩
    | map es clock =>
      have := h3 i _ hw (fun c e fz he => by cases he)
      rw [this]
      exact .inr ⟨rfl, rfl⟩
    | _ =>
      have := h3 i _ hw (fun c e fz he => by cases he)
      rw [this]
theorem J8B.same {w w' : World} (h : J8B w w') {p : MemPlace} (hp : p.block < w.heap.size) : w.sameAt w' p := by
  obtain ⟨h1, h2, h3, h4, h5⟩ := h
  cases p with
  | cell b off =>
    have hb : b < w.heap.size := hp
    have hg := Array.getElem?_eq_getElem hb
    show w'.cell? ⟨b, off, none⟩ = w.cell? ⟨b, off, none⟩
    rw [J5M, J5M]
    unfold J0h
    cases hw : w.heap[b]? with
    | none => rw [hg] at hw; cases hw
    | some x =>
      cases x with
      | cells c e fz =>
        obtain ⟨c', q1, q2, q3⟩ := h2 b c e fz hw
        rw [q1]
        exact q3 off (fun hf => hf)
      | _ =>
        have := h3 b _ hw (fun c e fz he => by cases he)
        rw [this]
  | map b =>
    have hb : b < w.heap.size := hp
    have hg := Array.getElem?_eq_getElem hb
    show w'.heap[b]? = w.heap[b]?
    cases hw : w.heap[b]? with
    | none => rw [hg] at hw; cases hw
    | some x =>
      cases x with
      | cells c e fz =>
        obtain ⟨c', q1, q2, q3⟩ := h2 b c e fz hw
        rw [q1]
        have : c' = c := by
          apply Array.ext_getElem?
          intro i
          exact q3 i (fun hf => hf)
        rw [this]
      | _ => exact h3 b _ hw (fun c e fz he => by cases he)
theorem J8B.frozen {w w' : World} (h : J8B w w') {a : Addr} (hp : a.block < w.heap.size) : w'.frozen? a = w.frozen? a := by
  obtain ⟨h1, h2, h3, h4, h5⟩ := h
  have hg := Array.getElem?_eq_getElem hp
  unfold World.frozen?
  cases hw : w.heap[a.block]? with
  | none => rw [hg] at hw; cases hw
  | some x =>
    cases x with
    | cells c e fz =>
      obtain ⟨c', q1, q2, q3⟩ := h2 a.block c e fz hw
      rw [q1]
    | _ =>
      have := h3 a.block _ hw (fun c e fz he => by cases he)
      rw [this]
theorem Ji5 {P : Program} {F : Orc} (hF : J3U P F) {f : FuncId} {args : List AV} {vals : Array Value} {w : World} (hl : args.length = vals.size)
    (hr : ∀ (i : Nat) x v, args[i]? = some x → vals[i]? = some v → Jw ⟨[], gh0 w, w⟩ x v) (h : F f args [] = some (.p (.b true), [])) :
    Calls P f vals w fun e w' => e = .returned (.bool true) ∧ J8B w w' := by
  refine ((hF _ _ _ _ h).2 (gh0 w) w vals (JnJ w) hl hr).mono fun e w' ⟨v, g', he, _, ht, hrel⟩ => ?_
  cases hrel with
  | p _ _ hrel =>
    cases hrel with
    | b =>
      refine ⟨he, ?_⟩
      obtain ⟨k1, k2, k3, k4⟩ := ht.keep
      refine ⟨k1, fun r c e fz hr => ?_, k3, k4⟩
      obtain ⟨c', q1, q2, q3⟩ := k2 r c e fz hr
      exact ⟨c', q1, q2, fun o _ => q3 o (fun ⟨b, hb⟩ => JdU _ _ _ _ _ hb)⟩
section
variable {H : Type} {enc : TypeId × Value → H} {P : Program}
theorem Jah (hl : laidOutB P = true) (hm : mapsRowed P = true) (hsz : ∀ {t e : TypeId}, t < P.types.size → P.underlying t = some (.slice e) → 0 < P.cellsOf e) {W W' : World} {sp : Nat → Bool} :
    ∀ {ts : List TypeId} {vs : List Value} {ds : List (DataW H)} {ps : List MemPlace}, (∀ t ∈ ts, t < P.types.size) → DataW.TrodAll enc P W 0 (fun _ => true) true ts vs ds ps →
      (∀ p ∈ ps, W.sameAt W' p) → (∀ p ∈ ps, sp p.block = true) → DataW.TrodAll enc P W' 0 sp true ts vs ds ps
  | [], [], [], _, _, h, _, _ => h
  | [], _ :: _, _, _, _, h, _, _ => h.elim
  | [], [], _ :: _, _, _, h, _, _ => h.elim
  | _ :: _, [], _, _, _, h, _, _ => h.elim
  | _ :: _, _ :: _, [], _, _, h, _, _ => h.elim
  | t :: ts, v :: vs, d :: ds, _, hT, ⟨p, q, ⟨n, h1⟩, h2, rfl⟩, hs, hp => by
    refine ⟨p, q, ⟨n, DataW.trod_stays (kids_rows hl hm) hsz (fun h => by cases h) (hT t (by simp)) h1 (fun x hx => hs x (by simp [hx])) (fun x hx => hp x (by simp [hx]))⟩, ?_, rfl⟩
    exact Jah hl hm hsz (fun x hx => hT x (by simp [hx])) h2 (fun x hx => hs x (by simp [hx])) (fun x hx => hp x (by simp [hx]))
def J79 (P : Program) : Bool := (List.range P.types.size).all fun t => match P.underlying t with
  | some (.slice e) => decide (0 < P.cellsOf e)
  | _ => true
theorem Jgc (h : J79 P = true) {t e : TypeId} (ht : t < P.types.size) (he : P.underlying t = some (.slice e)) : 0 < P.cellsOf e := by
  unfold J79 at h
  rw [List.all_eq_true] at h
  have := h t (by simpa using ht)
  rw [he] at this
  simpa using this
theorem Jj3 {fn : Func} {s : ChangeSpec} {tb : TypeId} (hl : laidOutB P = true) (hm : mapsRowed P = true) (hsz : J79 P = true) (hpar : ∀ t ∈ fn.params.toList, t < P.types.size)
    (hres : fn.resultTypes = #[tb]) (htb : P.underlying tb = some .bool) (hvars : s.vars = []) {apart fresh handsOn again : Bool} {W W' : World} {args : Array Value} {ds gs : List (DataW H)} {before : List MemPlace}
    (hfn : gs = [] → s.fn H (ds ++ gs) = { results := [.lit (.bool true)], args := ds })
    (hW : DataW.Whole enc P fn.params.toList s.vars apart W args.toList ds gs before) (hst : J8B W W') : s.post enc P fn apart fresh handsOn again W args (.bool true) W' := by
  have hW0 := hW
  have hlt := hW.lt
  obtain ⟨p, q, h1, h2, rfl, hz, hn⟩ := hW
  rw [hvars] at h2
  obtain ⟨rfl, rfl⟩ := trodVars_none h2
  rw [List.append_nil] at hW0 hlt hz hn
  have hf := hfn rfl
  have hargs : ∀ sp : Nat → Bool, (∀ x ∈ p, sp x.block = true) → DataW.TrodAll enc P W' 0 sp true fn.params.toList args.toList ds p := fun sp hp =>
    Jah hl hm (fun ht he => Jgc hsz ht he) hpar h1 (fun x hx => hst.same (hlt x hx)) hp
  have hr : ∀ (b : Nat) (sp : Nat → Bool) (hd : Bool), DataW.TrodAll enc P W' b sp hd fn.resultTypes.toList ((Value.bool true).resultList fn.resultTypes.size) [.lit (.bool true)] [] := by
    intro b sp hd
    rw [hres]
    exact trodAll_cons_mk (shut_bool htb _) trodAll_mk0
  refine ⟨ds, [], p, [], p, [], hW0, ?_, ?_, ?_, hst.kept _, fun _ => ⟨?_, ?_⟩⟩
  · rw [hf]; exact hr _ _ _
  · rw [hf]; exact hargs _ (fun x hx => by simpa using hlt x hx)
  · rw [hf, hvars]; rfl
  · exact ok_one hres rfl (okWide_bool_mk htb _)
  · refine ⟨_, [], [] ++ p, ⟨[] ++ p, [], trodAll_append (hargs _ (fun _ _ => rfl)) (hr _ _ _), by rw [hvars]; rfl, by simp, fun b off hp => ?_, fun ha => by simpa using hn ha⟩, fun x hx _ => by simpa using hx⟩
    have hp' : MemPlace.cell b off ∈ p := by simpa using hp
    rw [hst.frozen (a := ⟨b, off, none⟩) (hlt _ hp')]
    exact hz b off hp'
def Je8 (P : Program) (t : TypeId) (pvs : List PV) : AV := match P.underlying t with
  | some (.struct _) => .data pvs
  | some (.array _ _) => .data pvs
  | _ => match pvs with
    | [c] => .p c
    | _ => .unk
theorem JgX (hl : laidOutB P = true) (hm : mapsRowed P = true) {n : Nat} {t : TypeId} {w : World} {r : Reach} {base : Nat} {sp : Nat → Bool} {v : Value} {d : DataW H} {ps : List MemPlace} (hp : J6R P n t = true)
    (hv : Value.okWide P w r base t v) (h : DataW.Trod enc P w 0 sp true t v d ps) : ∃ pvs, J6j P n t pvs ∧ Jw ⟨[], gh0 w, w⟩ (Je8 P t pvs) v := by
  obtain ⟨fuel, h⟩ := h
  obtain ⟨pvs, q1, q2, q3⟩ := Jlt hl hm n t _ _ fuel hp h
  refine ⟨pvs, q1, ?_⟩
  cases n with
  | zero => simp [J6R] at hp
  | succ n =>
    unfold J6R at hp
    unfold Value.okWide at hv
    unfold Je8
    have one : ∀ {c : PV}, pvs = [c] → (∀ cs, v ≠ .agg cs) → Jw ⟨[], gh0 w, w⟩ (.p c) v := by
      intro c hc hne
      subst hc
      refine .p _ _ (q3 0 c v rfl ?_)
      cases v <;> first | rfl | exact absurd rfl (hne _)
    unfold J6j at q1
    split at hp
    · rename_i ht
      rw [ht] at q1 hv ⊢
      obtain ⟨b, rfl⟩ := q1
      exact one rfl (fun cs he => by subst he; simp [Cell.okWide, Cell.ok, ht] at hv)
    · rename_i k ht
      rw [ht] at q1 hv ⊢
      obtain ⟨z, rfl, _⟩ := q1
      exact one rfl (fun cs he => by subst he; simp [Cell.okWide, Cell.ok, ht] at hv)
    · rename_i ht
      rw [ht] at q1 hv ⊢
      obtain ⟨z, rfl, _⟩ := q1
      exact one rfl (fun cs he => by subst he; simp [Cell.okWide, Cell.ok, ht] at hv)
    · rename_i e ht
      rw [ht] at q1 hv ⊢
      obtain ⟨rows, rfl, _⟩ := q1
      exact one rfl (fun cs he => by subst he; simp [Cell.okWide, Cell.ok, ht] at hv)
    · rename_i fs ht
      rw [ht] at hv ⊢
      obtain ⟨cs, rfl, _⟩ := hv
      exact .data _ _ (by simpa [Value.cells] using q2) (fun i x v h1 h2 => q3 i x v h1 (by simpa [Value.cells] using h2))
    · rename_i m e ht
      rw [ht] at hv ⊢
      obtain ⟨cs, rfl, _⟩ := hv
      exact .data _ _ (by simpa [Value.cells] using q2) (fun i x v h1 h2 => q3 i x v h1 (by simpa [Value.cells] using h2))
    · cases hp
end
end Go.Am
end
