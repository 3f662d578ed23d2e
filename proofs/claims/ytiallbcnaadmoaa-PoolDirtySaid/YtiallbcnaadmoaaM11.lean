/-
  Parts of a proof: YtiallbcnaadmoaaRef, YtiallbcnaadmoaaRef2, YtiallbcnaadmoaaLaws, YtiallbcnaadmoaaPidx, YtiallbcnaadmoaaPidx2, YtiallbcnaadmoaaLoops, YtiallbcnaadmoaaTot, YtiallbcnaadmoaaPool1, YtiallbcnaadmoaaPool2, YtiallbcnaadmoaaPool3, YtiallbcnaadmoaaPool4, YtiallbcnaadmoaaPool5, AmIn, AmLaw.
-/
import Derived.ChangeArms
import Derived.OpenShut
import Derived.ChangeBears
import Derived.ChangeStays
import Derived.Handed
import Derived.RowKit3
import Derived.WalkKit
import Derived.ProofKit
import Derived.Test.YtiallbcnaadmoaaM4
import Derived.Test.YtiallbcnaadmoaaM10
set_option linter.unusedSimpArgs false
set_option linter.unusedVariables false
section
namespace Go.Am
theorem JhJ (p : J9) : J2s p = J18 p := by
  unfold J2s J18 J38
  by_cases h1 : p.ID ≥ 0
  · by_cases h2 : p.ID < 64
    · simp only [h1, h2, decide_true, if_true, Option.bind_some]
    · simp only [h1, h2, decide_true, decide_false, if_true, Bool.false_eq_true, if_false, Option.bind_some]
  · simp only [h1, decide_false, Bool.false_eq_true, if_false, Option.bind_some]
theorem Jj3 (p : J9) : ∃ b, J18 p = some b ∧ (b = true ↔ (0 ≤ p.ID ∧ p.ID < 64 ∧ 0 ≤ p.LSN ∧ p.LSN ≤ 1099511627776)) := by
  unfold J18 J38
  by_cases h1 : p.ID ≥ 0
  · by_cases h2 : p.ID < 64
    · by_cases h3 : p.LSN ≥ 0
      · refine ⟨decide (p.LSN ≤ 1099511627776), by simp only [h1, h2, h3, decide_true, if_true, Option.bind_some], ?_⟩
        rw [decide_eq_true_eq]
        exact ⟨fun h => ⟨h1, h2, h3, h⟩, fun h => h.2.2.2⟩
      · exact ⟨false, by simp only [h1, h2, h3, decide_true, decide_false, if_true, Bool.false_eq_true, if_false, Option.bind_some], by simp; omega⟩
    · exact ⟨false, by simp only [h1, h2, decide_true, decide_false, if_true, Bool.false_eq_true, if_false, Option.bind_some], by simp; omega⟩
  · exact ⟨false, by simp only [h1, decide_false, Bool.false_eq_true, if_false, Option.bind_some], by simp; omega⟩
theorem JfX (p : J9) : ∃ b, J3o p = some b ∧ (b = true ↔ JbN p) := by
  refine J32 (f := fun s : Int => J0R p s) (fun s => ∃ j : Nat, s = j ∧ j ≤ 16 ∧ ∀ (i : Nat) (h : i < 16), i < j → J3L p.LSN p.Cells[i]) (fun s => (16 - s).toNat)
    (fun b => b = true ↔ JbN p) (fun s ⟨j, hj, h4, hc⟩ => ?_) 0 ⟨0, rfl, by omega, fun i h hh => by omega⟩
  subst hj
  by_cases hlt : j < 16
  · have e1 : ((j : Nat) : Int) < 16 := by omega
    have e2 := J6d p.Cells j hlt
    have e3 := J3P (show j < 1000000 by omega)
    have e0 := J9E hlt
    have bad : ¬ J3L p.LSN p.Cells[j] → (false = true ↔ JbN p) := fun h1 => ⟨fun h => (by cases h), fun h2 => (h1 (h2 j hlt)).elim⟩
    have nxt : J3L p.LSN p.Cells[j] → ∀ (i : Nat) (h : i < 16), i < j + 1 → J3L p.LSN p.Cells[i] := by
      intro hok i hi hij
      by_cases hh : i < j
      · exact hc i hi hh
      · obtain rfl : i = j := by omega
        exact hok
    by_cases h12 : (((p.Cells[j]).Data.length : Nat) : Int) ≤ 12
    · by_cases hs : (p.Cells[j]).Set = true
      · have v1 : J0e p.Cells[j] = some true := by simp only [J0e, h12, decide_true, if_true, hs]
        by_cases hl : p.LSN = 0
        · right
          exact ⟨false, by simp only [J0R, e1, decide_true, if_true, e0, e2, Option.bind_some, v1, hs, hl, beq_self_eq_true], bad fun h => h.2.2 hs hl⟩
        · left
          have e4 : (p.LSN == 0) = false := by simpa using hl
          exact ⟨((j + 1 : Nat) : Int), by simp only [J0R, e1, decide_true, if_true, e0, e2, Option.bind_some, v1, e4, Bool.false_eq_true, if_false, e3], ⟨j + 1, rfl, by omega, nxt ⟨by omega, (fun h => by rw [hs] at h; cases h), fun _ => hl⟩⟩, by omega⟩
      · have hs' : (p.Cells[j]).Set = false := by simpa using hs
        by_cases hd : (p.Cells[j]).Data = []
        · have v1 : J0e p.Cells[j] = some true := by simp only [J0e, h12, decide_true, if_true, hs', Bool.false_eq_true, if_false]; rw [hd]; rfl
          left
          refine ⟨((j + 1 : Nat) : Int), ?_, ⟨j + 1, rfl, by omega, nxt ⟨by omega, fun _ => hd, fun h => (hs h).elim⟩⟩, by omega⟩
          simp only [J0R, e1, decide_true, if_true, e0, e2, Option.bind_some, v1, hs', Bool.false_eq_true, if_false, e3]
          split <;> rfl
        · right
          have e4 : ((p.Cells[j]).Data == []) = false := by simpa using hd
          have v1 : J0e p.Cells[j] = some false := by simp only [J0e, h12, decide_true, if_true, hs', Bool.false_eq_true, if_false, e4]
          exact ⟨false, by simp only [J0R, e1, decide_true, if_true, e0, e2, Option.bind_some, v1, Bool.false_eq_true, if_false], bad fun h => hd (h.2.1 hs')⟩
    · right
      have v1 : J0e p.Cells[j] = some false := by simp only [J0e, h12, decide_false, Bool.false_eq_true, if_false]
      exact ⟨false, by simp only [J0R, e1, decide_true, if_true, e0, e2, Option.bind_some, v1, Bool.false_eq_true, if_false], bad fun h => h12 (by have := h.1; omega)⟩
  · right
    have e1 : ¬ ((j : Nat) : Int) < 16 := by omega
    exact ⟨true, by simp only [J0R, e1, decide_false, Bool.false_eq_true, if_false, J5M, Option.map_some], fun _ i h => hc i h (by omega), fun _ => rfl⟩
theorem Jk5 (p : J9) : J3o p = J2u p := by
  obtain ⟨b, h1, h2⟩ := Jfc p
  obtain ⟨c, h3, h4⟩ := JfX p
  rw [h1, h3]
  congr 1
  cases b <;> cases c <;> simp_all
theorem JjX (p : J9) : J2I p = J2g p := by
  unfold J2I J2g
  simp only [JhJ, Jk5]
theorem Jff (p : J9) : ∃ b, J2g p = some b ∧ (b = true ↔ J8L p) := by
  obtain ⟨a, h1, h2⟩ := Jj3 p
  obtain ⟨b, h3, h4⟩ := Jfc p
  unfold J2g
  simp only [h1, h3, Option.bind_some]
  cases a with
  | false =>
    refine ⟨false, rfl, fun h => (by cases h), fun h => ?_⟩
    have := h2.2 ⟨h.id0, h.id1, h.lsn0, h.lsn1⟩
    cases this
  | true =>
    obtain ⟨i0, i1, l0, l1⟩ := h2.1 rfl
    refine ⟨b, rfl, fun h => ⟨i0, i1, l0, l1, h4.1 h⟩, fun h => h4.2 h.cells⟩
def Jpx (p : J9) : List UInt8 := J5a p ++ J1G ((crc (J5a p) : Nat) : Int) 4 ++ J1G p.LSN 8
theorem Jf8 {p : J9} (hp : J8L p) : J26 p = some (Jpx p, 0) := by
  obtain ⟨c, h1, h2⟩ := JhV hp
  rw [Jlw _ (by rw [Jll hp]; omega)] at h1
  injection h1 with h1
  subst h1
  have hc := Jon (J5a p)
  rw [J4w (by omega) (by omega)] at h2
  exact h2
end Go.Am
end
section
namespace Go.Am
set_option maxRecDepth 16000
theorem bind_none {α β : Type} {o : Option α} {f : α → Option β} (h : Option.bind o f = none) (h2 : ∀ x, o = some x → f x ≠ none) : o = none := by
  cases o with
  | none => rfl
  | some x => exact (h2 x rfl h).elim
end Go.Am
end
section
namespace Go.Am
set_option maxRecDepth 16000
theorem Jnm {l : List Int} (h : List.length l ≤ maxLen ∧ ∀ x ∈ l, 0 ≤ x ∧ x ≤ 255) {n : Nat} (hn : n ≤ 1000) : ∃ b, J3A l (n : Int) = some b ∧ J4b b := Jow h.2 hn
end Go.Am
end
section
namespace Go.Am
set_option maxRecDepth 16000
theorem J8s {α : Type} {l : List α} {k : Nat} (h : k < l.length) : idx l (k : Int) = some l[k] := by
  rw [Jiu, List.getElem?_eq_getElem h]
end Go.Am
end
section
namespace Go.Am
set_option maxRecDepth 16000
end Go.Am
end
section
namespace Go.Am
set_option maxRecDepth 16000
theorem JjJ {α ρ : Type} {f : Int → Option (Int ⊕ ρ)} {l : List α} (p : α → Bool) (hit : Nat → ρ) (out : ρ) (hl : l.length < 1000000)
    (h1 : ∀ (k : Nat) (h : k < l.length), f (k : Int) = some (if p l[k] = true then .inr (hit k) else .inl ((k + 1 : Nat) : Int))) (h2 : f (l.length : Int) = some (.inr out)) :
    J03 f 0 = some (match l.findIdx? p with
      | some k => hit k
      | none => out) := by
  have key : ∀ (n k : Nat), k + n = l.length → J03 f (k : Int) = some (match (l.drop k).findIdx? p with
      | some j => hit (k + j)
      | none => out) := by
    intro n
    induction n with
    | zero =>
      intro k hk
      obtain rfl : k = l.length := by omega
      rw [J2v h2]
      simp
    | succ n ih =>
      intro k hk
      have hlt : k < l.length := by omega
      have e := h1 k hlt
      rw [List.drop_eq_getElem_cons hlt, List.findIdx?_cons]
      by_cases hp : p l[k] = true
      · rw [if_pos hp] at e
        rw [J2v e, if_pos hp]
        rfl
      · rw [if_neg hp] at e
        rw [J3C e, ih (k + 1) (by omega), if_neg hp]
        cases (l.drop (k + 1)).findIdx? p with
        | none => rfl
        | some j => simp only [Option.map_some]; congr 2; omega
  have := key l.length 0 (by omega)
  simpa using this
theorem Jlh {ρ : Type} (c : Bool) (a b : ρ) : (if c = true then some a else some b) = some (if c = true then a else b) := by cases c <;> rfl
end Go.Am
end
section
namespace Go.Am
set_option maxRecDepth 16000
def Tot {ρ : Type} (o : Option ρ) (Q : ρ → Prop) : Prop := ∃ r, o = some r ∧ Q r
theorem Tot.bind {α ρ : Type} {o : Option α} {f : α → Option ρ} {Q : α → Prop} {R : ρ → Prop} (h : Tot o Q) (h2 : ∀ r, Q r → Tot (f r) R) : Tot (o.bind f) R := by
  obtain ⟨r, rfl, hq⟩ := h
  exact h2 r hq
theorem Tot.some {ρ : Type} {r : ρ} {Q : ρ → Prop} (h : Q r) : Tot (some r) Q := ⟨r, rfl, h⟩
theorem Tot.mono {ρ : Type} {o : Option ρ} {Q R : ρ → Prop} (h : Tot o Q) (h2 : ∀ r, Q r → R r) : Tot o R := by
  obtain ⟨r, e, hq⟩ := h
  exact ⟨r, e, h2 r hq⟩
theorem Tot.map {α ρ : Type} {o : Option α} {f : α → ρ} {Q : α → Prop} {R : ρ → Prop} (h : Tot o Q) (h2 : ∀ r, Q r → R (f r)) : Tot (Option.map f o) R := by
  obtain ⟨r, rfl, hq⟩ := h
  exact ⟨f r, rfl, h2 r hq⟩
section
end
end Go.Am
end
section
namespace Go.Am
set_option maxRecDepth 16000
set_option maxHeartbeats 2000000
theorem Jmj {ρ : Type} {f : Int → Option (Int ⊕ ρ)} {n : Nat} (q : Nat → Prop) (bad out : ρ) (hn : n < 1000000)
    (h1 : ∀ (k : Nat), k < n → (q k ∧ f (k : Int) = some (.inl ((k + 1 : Nat) : Int))) ∨ (¬ q k ∧ f (k : Int) = some (.inr bad))) (h2 : f (n : Int) = some (.inr out)) :
    (J03 f 0 = some out ∧ ∀ k, k < n → q k) ∨ (J03 f 0 = some bad ∧ ¬ ∀ k, k < n → q k) := by
  have key : ∀ (m k : Nat), k + m = n → (∀ j, j < k → q j) → (J03 f (k : Int) = some out ∧ ∀ k, k < n → q k) ∨ (J03 f (k : Int) = some bad ∧ ¬ ∀ k, k < n → q k) := by
    intro m
    induction m with
    | zero =>
      intro k hk hq
      obtain rfl : k = n := by omega
      exact .inl ⟨J2v h2, hq⟩
    | succ m ih =>
      intro k hk hq
      rcases h1 k (by omega) with ⟨a, e⟩ | ⟨a, e⟩
      · rw [J3C e]
        exact ih (k + 1) (by omega) fun j hj => by
          rcases Nat.lt_succ_iff_lt_or_eq.1 hj with h | rfl
          · exact hq j h
          · exact a
      · exact .inr ⟨J2v e, fun h => a (h k (by omega))⟩
  exact key n 0 (by omega) fun j hj => absurd hj (by omega)
def J5Q (l : List T_api_Frame) (id : Int) : Option Nat := l.findIdx? fun f => f.Page.ID == id
def Jgf (o : Option Nat) : Int := match o with
  | some k => (k : Int)
  | none => -1
theorem J7e {p : T_api_Pool} (hl : p.Frames.length < 1000000) (id : Int) : J10 p id = some (Jgf (J5Q p.Frames id)) := by
  have e : JI p.Frames id = _ := JjJ (f := fun s => Jx p.Frames (p.Frames.length : Int) id s) (l := p.Frames) (fun f => f.Page.ID == id) (fun k => (k : Int)) (-1) hl
    (fun k hk => by
      have e1 : ((k : Nat) : Int) < (p.Frames.length : Int) := by omega
      simp only [Jx, e1, decide_true, if_true, J8s hk, Option.bind_some, J4T, Jlh, J3P (show k < 1000000 by omega)])
    (by
      have e1 : ¬ ((p.Frames.length : Nat) : Int) < (p.Frames.length : Int) := by omega
      simp only [Jx, e1, decide_false, Bool.false_eq_true, if_false, JT, Option.map_some])
  simp only [J10, e, Option.bind_some, J5Q, Jgf]
  all_goals (cases p.Frames.findIdx? (fun f => f.Page.ID == id) <;> rfl)
structure Jei (f : T_api_Frame) : Prop where
  page : J8L f.Page
  d1 : f.Dirty = true → 1 ≤ f.Rec ∧ f.Rec ≤ f.Page.LSN
  d0 : f.Dirty = false → f.Rec = 0
structure J7S (p : T_api_Pool) : Prop where
  s1 : 1 ≤ p.Size
  s2 : p.Size ≤ 64
  n : ((p.Frames.length : Nat) : Int) ≤ p.Size
  h0 : 0 ≤ p.Hand
  h1 : p.Hand < J71 1 ((p.Frames.length : Nat) : Int)
  fr : ∀ (k : Nat) (h : k < p.Frames.length), Jei p.Frames[k]
  uq : ∀ (i j : Nat) (hi : i < p.Frames.length) (hj : j < p.Frames.length), p.Frames[i].Page.ID = p.Frames[j].Page.ID → i = j
theorem JdC {l : List T_api_Frame} {id : Int} {k : Nat} (h : J5Q l id = some k) : ∃ hk : k < l.length, l[k].Page.ID = id := by
  obtain ⟨hk, h3, _⟩ := List.findIdx?_eq_some_iff_getElem.1 h
  exact ⟨hk, by simpa using h3⟩
theorem Jjm {l : List T_api_Frame} {id : Int} (h : J5Q l id = none) {k : Nat} (hk : k < l.length) : l[k].Page.ID ≠ id := by
  unfold J5Q at h
  rw [List.findIdx?_eq_none_iff] at h
  simpa using h _ (List.getElem_mem hk)
theorem JgF {l : List T_api_Frame} {k : Nat} (hk : k < l.length) : ∃ j, J5Q l l[k].Page.ID = some j ∧ j ≤ k := by
  cases h : J5Q l l[k].Page.ID with
  | none => exact absurd rfl (Jjm h hk)
  | some j =>
    refine ⟨j, rfl, ?_⟩
    obtain ⟨hj, h3, h4⟩ := List.findIdx?_eq_some_iff_getElem.1 h
    rcases Nat.lt_or_ge k j with hlt | hge
    · exact absurd (h4 k hlt) (by simp)
    · exact hge
theorem JhC {l : List T_api_Frame} (uq : ∀ (i j : Nat) (hi : i < l.length) (hj : j < l.length), l[i].Page.ID = l[j].Page.ID → i = j) {k : Nat} (hk : k < l.length) : J5Q l l[k].Page.ID = some k := by
  obtain ⟨j, hj, _⟩ := JgF hk
  obtain ⟨hj', e⟩ := JdC hj
  rw [hj, uq j k hj' hk e]
def Rq (l : List T_api_Frame) (k : Nat) : Prop := ∃ h : k < l.length, Jei l[k] ∧ J5Q l l[k].Page.ID = some k
theorem JpD {l : List T_api_Frame} (h : ∀ k, k < l.length → Rq l k) : ∀ (i j : Nat) (hi : i < l.length) (hj : j < l.length), l[i].Page.ID = l[j].Page.ID → i = j := by
  intro i j hi hj e
  obtain ⟨_, _, h1⟩ := h i hi
  obtain ⟨_, _, h2⟩ := h j hj
  rw [e, h2] at h1
  injection h1 with h1
  exact h1.symm
theorem Jje {p : T_api_Pool} (s1 : 1 ≤ p.Size) (s2 : p.Size ≤ 64) (n : ((p.Frames.length : Nat) : Int) ≤ p.Size) (h0 : 0 ≤ p.Hand) (h1 : p.Hand < J71 1 ((p.Frames.length : Nat) : Int)) :
    (∀ k, k < p.Frames.length → Rq p.Frames k) ↔ J7S p := by
  constructor
  · intro h
    exact ⟨s1, s2, n, h0, h1, fun k hk => let ⟨_, a, _⟩ := h k hk; a, JpD h⟩
  · intro h k hk
    exact ⟨hk, h.fr k hk, JhC h.uq hk⟩
theorem JeD (p : T_api_Pool) : ∃ b, J0U p = some b ∧ (b = true ↔ J7S p) := by
  unfold J0U
  by_cases c1 : p.Size < 1
  · exact ⟨false, by simp only [c1, decide_true, if_true], by simp; intro h; have := h.s1; omega⟩
  by_cases c2 : p.Size > 64
  · exact ⟨false, by simp only [c1, c2, decide_true, decide_false, Bool.false_eq_true, if_true, if_false], by simp; intro h; have := h.s2; omega⟩
  by_cases c3 : ((p.Frames.length : Nat) : Int) > p.Size
  · exact ⟨false, by simp only [c1, c2, c3, decide_true, decide_false, Bool.false_eq_true, if_true, if_false], by simp; intro h; have := h.n; omega⟩
  by_cases c4 : p.Hand < 0
  · exact ⟨false, by simp only [c1, c2, c3, c4, decide_true, decide_false, Bool.false_eq_true, if_true, if_false], by simp; intro h; have := h.h0; omega⟩
  by_cases c5 : p.Hand ≥ J71 1 ((p.Frames.length : Nat) : Int)
  · exact ⟨false, by simp only [c1, c2, c3, c4, c5, decide_true, decide_false, Bool.false_eq_true, if_true, if_false], by simp; intro h; have := h.h1; omega⟩
  simp only [c1, c2, c3, c4, c5, decide_false, Bool.false_eq_true, if_false]
  have hiff := Jje (p := p) (by omega) (by omega) (by omega) (by omega) (by omega)
  have hlt : p.Frames.length < 1000000 := by omega
  have key := Jmj (f := fun s => J2U p.Frames (p.Frames.length : Int) p s) (n := p.Frames.length) (Rq p.Frames) false true hlt
    (fun k hk => by
      have e1 : ((k : Nat) : Int) < (p.Frames.length : Int) := by omega
      obtain ⟨b, hb, hbi⟩ := Jff p.Frames[k].Page
      simp only [J2U, e1, decide_true, if_true, J8s hk, Option.bind_some, hb, J7e hlt, J3P (show k < 1000000 by omega)]
      obtain ⟨j, hj, _⟩ := JgF hk
      simp only [hj, Jgf]
      cases hb0 : b with
      | false =>
        right
        refine ⟨fun ⟨_, a, _⟩ => ?_, by simp only [Bool.false_eq_true, if_false]⟩
        have := hbi.2 a.page
        rw [hb0] at this; cases this
      | true =>
        have hpg := hbi.1 hb0
        simp only [if_true]
        by_cases hjk : j = k
        · subst hjk
          have d : (((j : Nat) : Int) != ((j : Nat) : Int)) = false := by simp
          simp only [d, Bool.false_eq_true, if_false]
          cases hd : p.Frames[j].Dirty with
          | true =>
            simp only [if_true]
            by_cases r1 : p.Frames[j].Rec < 1
            · exact .inr ⟨fun ⟨_, a, _⟩ => by have := (a.d1 hd).1; omega, by simp only [r1, decide_true, if_true]⟩
            · by_cases r2 : p.Frames[j].Rec > p.Frames[j].Page.LSN
              · exact .inr ⟨fun ⟨_, a, _⟩ => by have := (a.d1 hd).2; omega, by simp only [r1, r2, decide_true, decide_false, Bool.false_eq_true, if_true, if_false]⟩
              · exact .inl ⟨⟨hk, ⟨hpg, fun _ => ⟨by omega, by omega⟩, fun h => by rw [hd] at h; cases h⟩, hj⟩, by simp only [r1, r2, decide_false, Bool.false_eq_true, if_false]⟩
          | false =>
            simp only [Bool.false_eq_true, if_false]
            by_cases r1 : p.Frames[j].Rec = 0
            · have d2 : (p.Frames[j].Rec != 0) = false := by simpa using r1
              exact .inl ⟨⟨hk, ⟨hpg, (fun h => by rw [hd] at h; cases h), fun _ => r1⟩, hj⟩, by simp only [d2, Bool.false_eq_true, if_false]⟩
            · have d2 : (p.Frames[j].Rec != 0) = true := by simpa using r1
              exact .inr ⟨fun ⟨_, a, _⟩ => r1 (a.d0 hd), by simp only [d2, if_true]⟩
        · have d : (((j : Nat) : Int) != ((k : Nat) : Int)) = true := by simp; omega
          exact .inr ⟨fun ⟨_, _, a⟩ => by rw [hj] at a; injection a with a; exact hjk a, by simp only [d, if_true]⟩)
    (by
      have e1 : ¬ ((p.Frames.length : Nat) : Int) < (p.Frames.length : Int) := by omega
      simp only [J2U, e1, decide_false, Bool.false_eq_true, if_false, J6y, Option.map_some])
  rcases key with ⟨e, h⟩ | ⟨e, h⟩
  · exact ⟨true, e, by simpa using hiff.1 h⟩
  · exact ⟨false, e, by simpa using fun h2 => h (hiff.2 h2)⟩
theorem J4m {p : T_api_Pool} (h : J7S p) : J0U p = some true := by
  obtain ⟨b, e, hb⟩ := JeD p
  rw [e, hb.2 h]
theorem J8A {l : List T_api_Frame} (h : l.length ≤ 1000) : JS l = some l := by
  have e : (2 * l.length + 512) * 424 ≤ 281474976710656 := by omega
  unfold JS
  rw [if_pos e]
theorem J7S.len {p : T_api_Pool} (h : J7S p) : p.Frames.length ≤ 64 := by
  have := h.n; have := h.s2; omega
theorem Jfv {l : List T_api_Frame} (h : l.length ≤ 1000) {k : Nat} (hk : k < l.length) (f : T_api_Frame) : J0i l (k : Int) f = some (l.set k f) := by
  simp only [J0i, J8A h, Option.bind_some, J8s hk, Int.toNat_natCast]
end Go.Am
end
section
namespace Go.Am
set_option maxRecDepth 16000
set_option maxHeartbeats 2000000
abbrev J3g : Vector Je 16 := Vector.replicate 16 (⟨false, []⟩ : Je)
def fr0 (b i : Nat) (u : Bool) : T_api_Frame := ⟨⟨((b + i : Nat) : Int), 0, J3g⟩, false, 0, u⟩
def frs (b : Nat) (l : List Bool) : List T_api_Frame := l.mapIdx fun i u => fr0 b i u
theorem J6m (b : Nat) (l : List Bool) : (frs b l).length = l.length := by simp [frs]
theorem J6u {b : Nat} {l : List Bool} {k : Nat} (h : k < l.length) : (frs b l)[k]'(by rw [J6m]; exact h) = fr0 b k l[k] := by simp [frs]
theorem Jnh (b : Nat) (l : List Bool) (k : Nat) (u : Bool) : (frs b l).set k (fr0 b k u) = frs b (l.set k u) := by
  apply List.ext_getElem
  · simp [frs]
  · intro i h1 h2
    rw [List.getElem_set]
    simp only [frs, List.getElem_mapIdx, List.getElem_set]
    split
    · rename_i e; subst e; simp
    · simp [*]
theorem Jln (b : Nat) (l : List Bool) (u : Bool) : frs b l ++ [fr0 b l.length u] = frs b (l ++ [u]) := by simp [frs, List.mapIdx_append]
def plz (b n : Nat) (l : List Bool) (h : Nat) : T_api_Pool := ⟨(n : Int), frs b l, (h : Int)⟩
theorem Jkr {b : Nat} {n : Nat} {l : List Bool} {h : Nat} (h1 : 1 ≤ n) (h2 : b + n ≤ 64) (hl : l.length ≤ n) (hh : h < max 1 l.length) : J7S (plz b n l h) := by
  have e := J6m b l
  refine ⟨by show (1 : Int) ≤ n; omega, by show (n : Int) ≤ 64; omega, by show (((frs b l).length : Nat) : Int) ≤ n; omega, by show (0 : Int) ≤ h; omega, ?_, fun k hk => ?_, fun i j hi hj he => ?_⟩
  · show (h : Int) < J71 1 (((frs b l).length : Nat) : Int)
    unfold J71
    split <;> omega
  · have hk' : k < l.length := by rw [← e]; exact hk
    have : (plz b n l h).Frames[k] = fr0 b k l[k] := J6u hk'
    rw [this]
    exact ⟨J8F (by show (0 : Int) ≤ ((b + k : Nat) : Int); omega) (by show ((b + k : Nat) : Int) < 64; omega) (by omega) (by omega), (fun h => by cases h), fun _ => rfl⟩
  · have hi' : i < l.length := by rw [← e]; exact hi
    have hj' : j < l.length := by rw [← e]; exact hj
    have ei : (plz b n l h).Frames[i] = fr0 b i l[i] := J6u hi'
    have ej : (plz b n l h).Frames[j] = fr0 b j l[j] := J6u hj'
    rw [ei, ej] at he
    have he : ((b + i : Nat) : Int) = ((b + j : Nat) : Int) := he
    omega
theorem Jl7 {b : Nat} {n : Nat} {l : List Bool} {h : Nat} {k : Nat} (hl : l.length ≤ 64) : J10 (plz b n l h) ((b + k : Nat) : Int) = some (if k < l.length then (k : Int) else -1) := by
  have e := J6m b l
  rw [J7e (by show (frs b l).length < _; omega)]
  by_cases hk : k < l.length
  · have h3 := JhC (l := frs b l) (fun i j hi hj he => by
      rw [J6u (by omega), J6u (by omega)] at he
      have he : ((b + i : Nat) : Int) = ((b + j : Nat) : Int) := he
      omega) (k := k) (by omega)
    rw [J6u hk] at h3
    have h3 : J5Q (plz b n l h).Frames ((b + k : Nat) : Int) = some k := h3
    rw [h3, if_pos hk]; rfl
  · have h3 : J5Q (frs b l) ((b + k : Nat) : Int) = none := by
      unfold J5Q
      rw [List.findIdx?_eq_none_iff]
      intro x hx
      obtain ⟨i, hi, rfl⟩ := List.getElem_of_mem hx
      rw [J6u (by omega)]
      have : ((b + i : Nat) : Int) ≠ ((b + k : Nat) : Int) := by omega
      simpa [fr0] using this
    have h3 : J5Q (plz b n l h).Frames ((b + k : Nat) : Int) = none := h3
    rw [h3, if_neg hk]; rfl
theorem Jki {l : List T_api_Frame} {f : T_api_Frame} (h : l.length ≤ 1000) : JcJ 424 l [f] = some (l ++ [f]) := by
  have e : 0 < [f].length ∧ J5L (l.length + [f].length) 424 = true := by
    refine ⟨by simp, ?_⟩
    simp only [J5L, List.length_cons, List.length_nil]
    simp; omega
  unfold JcJ
  rw [if_pos e]
theorem Jet {b : Nat} {n : Nat} {l : List Bool} (h1 : 1 ≤ n) (h2 : b + n ≤ 64) (hl : l.length < n) : J1M (plz b n l 0) ⟨((b + l.length : Nat) : Int), 0, J3g⟩ = some (plz b n (l ++ [true]) 0, 0) := by
  have e := J6m b l
  have ok := Jkr (b := b) (n := n) (l := l) (h := 0) h1 h2 (by omega) (by omega)
  have a1 := Jf8 (p := ⟨((b + l.length : Nat) : Int), 0, J3g⟩) (J8F (by omega) (by omega) (by omega) (by omega))
  have a2 := Jl7 (b := b) (n := n) (l := l) (h := 0) (k := l.length) (by omega)
  rw [if_neg (by omega)] at a2
  have d0 : ((0 : Int) != 0) = false := rfl
  have d1 : ¬ ((-1 : Int) ≥ 0) := by omega
  have d2 : ((((plz b n l 0).Frames.length : Nat) : Int) == (plz b n l 0).Size) = false := by
    have : (((frs b l).length : Nat) : Int) ≠ (n : Int) := by omega
    simpa [plz] using this
  have a3 : JcJ 424 (plz b n l 0).Frames [fr0 b l.length true] = some (frs b l ++ [fr0 b l.length true]) := Jki (by show (frs b l).length ≤ 1000; omega)
  have a3 : JcJ 424 (plz b n l 0).Frames ([(⟨⟨((b + l.length : Nat) : Int), 0, J3g⟩, false, 0, true⟩ : T_api_Frame)] : List T_api_Frame) = some (frs b (l ++ [true])) := by rw [← Jln]; exact a3
  simp only [J1M, J4m ok, a1, a2, d0, d1, d2, decide_false, Option.bind_some, if_true, Bool.false_eq_true, if_false, J0j, a3]
  rfl
def clr (l : List Bool) (k : Nat) : List Bool := List.replicate k false ++ l.drop k
theorem Jel {l : List Bool} {k : Nat} (h : k ≤ l.length) : (clr l k).length = l.length := by simp [clr]; omega
theorem JiD {l : List Bool} {k : Nat} (h : k < l.length) : (clr l k)[k]'(by rw [Jel (by omega)]; exact h) = l[k] := by
  simp [clr]
theorem JlG (l : List Bool) : clr l 0 = l := by simp [clr]
theorem JnT {l : List Bool} {k : Nat} (h : k < l.length) : (clr l k).set k false = clr l (k + 1) := by
  unfold clr
  rw [List.drop_eq_getElem_cons h, List.set_append_right _ _ (by simp), List.length_replicate, Nat.sub_self, List.set_cons_zero, List.replicate_succ', List.append_assoc]
  rfl
def Jh3 (l : List Bool) : Nat := match l.findIdx? fun u => !u with
  | some j => j
  | none => 0
def after (l : List Bool) : List Bool := match l.findIdx? fun u => !u with
  | some j => clr l j
  | none => List.replicate l.length false
theorem Jhd {b : Nat} {n : Nat} {l : List Bool} (h1 : 1 ≤ n) (h2 : b + n ≤ 64) (hl : l.length ≤ n) (h0 : 0 < l.length) :
    J2F (plz b n l 0) = some (plz b n (after l) (Jh3 l), ((b + Jh3 l : Nat) : Int), 0) := by
  have e := J6m b l
  have ok := Jkr (b := b) (n := n) (l := l) (h := 0) h1 h2 hl (by omega)
  have d0 : ((((plz b n l 0).Frames.length : Nat) : Int) == 0) = false := by
    have : (((frs b l).length : Nat) : Int) ≠ 0 := by omega
    simpa [plz] using this
  have step : ∀ k, k < l.length → (l[k]? = some true) → (fun s : Int × List T_api_Frame => J1S (n : Int) (⟨0, ([] : List T_api_Frame), 0⟩ : T_api_Pool) s.1 s.2) ((k : Int), frs b (clr l k)) = some (.inl ((((k + 1) % l.length : Nat) : Int), frs b (clr l (k + 1)))) := by
    intro k hk hu
    have hc := Jel (l := l) (k := k) (by omega)
    have i1 : idx (frs b (clr l k)) (k : Int) = some (fr0 b k true) := by
      rw [J8s (by rw [J6m]; omega), J6u (by omega), JiD hk]
      rw [List.getElem?_eq_getElem hk] at hu
      injection hu with hu
      rw [hu]
    have w1 : IntKind.wrap .i64 ((k : Int) + 1) = ((k + 1 : Nat) : Int) := J3P (by omega)
    have r1 : Jbq ((k + 1 : Nat) : Int) (((frs b (clr l k)).length : Nat) : Int) = some (((k + 1) % l.length : Nat) : Int) := by
      unfold Jbq
      rw [if_neg (by rw [J6m]; omega), J6m, hc]
      rfl
    have s1 : (frs b (clr l k)).set k (fr0 b k false) = frs b (clr l (k + 1)) := by rw [Jnh, JnT hk]
    have hu' : (fr0 b k true).Used = true := rfl
    simp only [J1S, i1, Option.bind_some, hu', if_true, w1, r1, Int.toNat_natCast]
    have : (⟨(fr0 b k true).Page, (fr0 b k true).Dirty, (fr0 b k true).Rec, false⟩ : T_api_Frame) = fr0 b k false := rfl
    rw [this, s1]
  have run : ∀ m k, k + m < l.length → (∀ i, k ≤ i → i < k + m → l[i]? = some true) → J3e (n : Int) (⟨0, ([] : List T_api_Frame), 0⟩ : T_api_Pool) ((k : Int), frs b (clr l k)) = J3e (n : Int) (⟨0, ([] : List T_api_Frame), 0⟩ : T_api_Pool) (((k + m : Nat) : Int), frs b (clr l (k + m))) := by
    intro m
    induction m with
    | zero => intro k _ _; rfl
    | succ m ih =>
      intro k hk hu
      have e1 := step k (by omega) (hu k (Nat.le_refl _) (by omega))
      rw [Nat.mod_eq_of_lt (by omega)] at e1
      have := ih (k + 1) (by omega) fun i h3 h4 => hu i (by omega) (by omega)
      rw [show k + 1 + m = k + (m + 1) by omega] at this
      exact (J3C e1).trans this
  have fin : ∀ (k : Nat) (l' : List Bool), l'.length = l.length → k < l'.length → l'[k]? = some false → J3e (n : Int) (⟨0, ([] : List T_api_Frame), 0⟩ : T_api_Pool) ((k : Int), frs b l') = some (plz b n l' k, ((b + k : Nat) : Int), 0) := by
    intro k l' hl' hk hu
    have i1 : idx (frs b l') (k : Int) = some (fr0 b k false) := by
      rw [J8s (by rw [J6m]; omega), J6u hk]
      rw [List.getElem?_eq_getElem hk] at hu
      injection hu with hu
      rw [hu]
    refine J2v (f := fun s : Int × List T_api_Frame => J1S (n : Int) (⟨0, ([] : List T_api_Frame), 0⟩ : T_api_Pool) s.1 s.2) ?_
    have hu' : (fr0 b k false).Used = false := rfl
    simp only [J1S, i1, Option.bind_some, hu', Bool.false_eq_true, if_false, J5R, Option.map_some]
    rfl
  have w : J3e (n : Int) (⟨0, ([] : List T_api_Frame), 0⟩ : T_api_Pool) (0, frs b l) = some (plz b n (after l) (Jh3 l), ((b + Jh3 l : Nat) : Int), 0) := by
    have z : (0, frs b l) = (((0 : Nat) : Int), frs b (clr l 0)) := by rw [JlG]; rfl
    rw [z]
    unfold after Jh3
    cases hf : l.findIdx? (fun u => !u) with
    | some j =>
      obtain ⟨hj, h3, h4⟩ := List.findIdx?_eq_some_iff_getElem.1 hf
      have r := run j 0 (by omega) fun i _ hi => by
        rw [List.getElem?_eq_getElem (by omega)]
        have := h4 i (by omega)
        simpa using this
      rw [r]
      simp only [Nat.zero_add]
      have hc := Jel (l := l) (k := j) (by omega)
      refine fin j (clr l j) hc (by omega) ?_
      rw [List.getElem?_eq_getElem (by omega), JiD hj]
      simpa using h3
    | none =>
      rw [List.findIdx?_eq_none_iff] at hf
      have hall : ∀ i, i < l.length → l[i]? = some true := fun i hi => by
        rw [List.getElem?_eq_getElem hi]
        have := hf _ (List.getElem_mem hi)
        simpa using this
      have r := run (l.length - 1) 0 (by omega) fun i _ hi => hall i (by omega)
      rw [r]
      simp only [Nat.zero_add]
      have e1 := step (l.length - 1) (by omega) (hall _ (by omega))
      rw [show l.length - 1 + 1 = l.length by omega, Nat.mod_self] at e1
      have hcl : clr l l.length = List.replicate l.length false := by simp [clr]
      rw [hcl] at e1
      refine (J3C e1).trans ?_
      exact fin 0 (List.replicate l.length false) (by simp) (by simpa using h0) (by simp [h0])
  simp only [J2F, J4m ok, Option.bind_some, if_true, d0, Bool.false_eq_true, if_false, J8A (l := (plz b n l 0).Frames) (by show (frs b l).length ≤ 1000; omega)]
  exact w
end Go.Am
end
section
namespace Go.Am
set_option maxRecDepth 16000
set_option maxHeartbeats 2000000
theorem Jh2 {n : Nat} (h1 : 1 ≤ n) (h2 : n ≤ 64) : J31 (n : Int) = some (plz 0 n [] 0, 0) := by
  have c1 : ¬ (n : Int) < 1 := by omega
  have c2 : ¬ (n : Int) > 64 := by omega
  simp only [J31, c1, c2, decide_false, Bool.false_eq_true, if_false]
  rfl
theorem Jj1 : J3j = some true := by
  have a1 : J31 2 = some (plz 1 2 [] 0, 0) := Jh2 (n := 2) (by omega) (by omega)
  have a2 : J1M (plz 1 2 [] 0) ⟨1, 0, J3g⟩ = some (plz 1 2 [true] 0, 0) := Jet (b := 1) (n := 2) (l := []) (by omega) (by omega) (by simp)
  have a3 : J1M (plz 1 2 [true] 0) ⟨2, 0, J3g⟩ = some (plz 1 2 [true, true] 0, 0) := Jet (b := 1) (n := 2) (l := [true]) (by omega) (by omega) (by simp)
  have a4 : J2F (plz 1 2 [true, true] 0) = some (plz 1 2 [false, false] 0, 1, 0) := Jhd (b := 1) (n := 2) (l := [true, true]) (by omega) (by omega) (by simp) (by simp)
  have d0 : ((0 : Int) == 0) = true := rfl
  have d1 : ((1 : Int) == 1) = true := rfl
  have d2 : ((((plz 1 2 [false, false] 0).Frames.length : Nat) : Int) == 2) = true := rfl
  have i0 : idx (plz 1 2 [false, false] 0).Frames 0 = some (fr0 1 0 false) := rfl
  have i1 : idx (plz 1 2 [false, false] 0).Frames 1 = some (fr0 1 1 false) := rfl
  have u0 : (fr0 1 0 false).Used = false := rfl
  have u1 : (fr0 1 1 false).Used = false := rfl
  unfold J3j
  simp only [a1, a2, a3, a4, d0, d1, d2, i0, i1, u0, u1, Option.bind_some, if_true, Bool.false_eq_true, if_false, Bool.not_false]
section
end
end Go.Am
end
section
namespace Go.Am
set_option maxRecDepth 16000
set_option maxHeartbeats 2000000
theorem JkJ {l : List T_api_Frame} {k : Nat} (h : k < l.length) (hl : l.length ≤ 1000) : J11 l (k : Int) (IntKind.wrap .i64 ((k : Int) + 1)) = some (l.eraseIdx k) := by
  rw [J3P (by omega)]
  have e : (0 : Int) ≤ (k : Int) ∧ (k : Int) ≤ ((k + 1 : Nat) : Int) ∧ ((k + 1 : Nat) : Int) ≤ ((l.length : Nat) : Int) := by omega
  unfold J11 JcN
  rw [if_pos e, List.eraseIdx_eq_take_drop_succ, Int.toNat_natCast, Int.toNat_natCast]
def Jk3 (h : Int) (k n : Nat) : Int :=
  let h1 := if (k : Int) < h then h - 1 else h
  if h1 ≥ (n : Int) then 0 else h1
theorem Jml {p : T_api_Pool} (hp : J7S p) {id : Int} {k : Nat} (hf : J5Q p.Frames id = some k) (hd : ∀ h : k < p.Frames.length, p.Frames[k].Dirty = false) :
    J2f p id = some (⟨p.Size, p.Frames.eraseIdx k, Jk3 p.Hand k (p.Frames.eraseIdx k).length⟩, 0) := by
  have h64 := hp.len
  obtain ⟨hk, _⟩ := JdC hf
  have c1 : ¬ ((k : Int) < 0) := by omega
  have hh := hp.h0
  have hh1 := hp.h1
  have w : IntKind.wrap .i64 (p.Hand - 1) = p.Hand - 1 := J4w (by omega) (by unfold J71 at hh1; split at hh1 <;> omega)
  simp only [J2f, J4m hp, J7e (show p.Frames.length < 1000000 by omega), hf, Jgf, c1, decide_false, Option.bind_some, if_true, Bool.false_eq_true, if_false, J8s hk, hd hk, J8A (show p.Frames.length ≤ 1000 by omega), JkJ hk (show p.Frames.length ≤ 1000 by omega), w]
  unfold Jk3
  by_cases c2 : (k : Int) < p.Hand
  · simp only [c2, decide_true, if_true, J4c, J45]
    by_cases c3 : p.Hand - 1 ≥ (((p.Frames.eraseIdx k).length : Nat) : Int)
    · simp only [c3, decide_true, if_true]
    · simp only [c3, decide_false, Bool.false_eq_true, if_false]
  · simp only [c2, decide_false, Bool.false_eq_true, if_false, J4c, J45]
    by_cases c3 : p.Hand ≥ (((p.Frames.eraseIdx k).length : Nat) : Int)
    · simp only [c3, decide_true, if_true]
    · simp only [c3, decide_false, Bool.false_eq_true, if_false]
end Go.Am
end
section
namespace Go.Am
set_option maxRecDepth 16000
set_option maxHeartbeats 2000000
set_option linter.unusedSectionVars false
theorem JaZ {b : T_pagemenddraw_Codes} (hb : J4b b) {n : Int} (h1 : 1 ≤ n) (h2 : n ≤ 256) :
    ∃ r b', J2D b n = some (r, b') ∧ J4b b' ∧ 0 ≤ r ∧ r < n ∧ b'.l_ = b.l_ ∧ b.at_ ≤ b'.at_ ∧ (b.at_ < (b.l_.length : Int) → b.at_ < b'.at_) := by
  obtain ⟨r, b', e, hb', h3, h4⟩ := Jn6 hb h1 h2
  refine ⟨r, b', e, hb', h3, h4, ?_⟩
  have e' : J1X (J20 11) b n = some (r, b') := e
  unfold J1X at e'
  by_cases c : b.at_ ≥ ((b.l_.length : Nat) : Int)
  · simp only [c, decide_true, if_true] at e'
    injection e' with e'
    injection e' with _ e'
    subst e'
    exact ⟨rfl, by omega, fun h => by omega⟩
  · have c2 : ¬ n < 1 := by omega
    have c3 : ¬ n > 256 := by omega
    simp only [c, c2, c3, decide_false, Bool.false_eq_true, if_false] at e'
    obtain ⟨y, _, e'⟩ := Option.bind_eq_some_iff.1 e'
    obtain ⟨q, _, e'⟩ := Option.bind_eq_some_iff.1 e'
    injection e' with e'
    injection e' with _ e'
    have a0 := hb.at0
    have al := hb.len
    have w : IntKind.wrap .i64 (b.at_ + 1) = b.at_ + 1 := J4w (by omega) (by omega)
    rw [w] at e'
    subst e'
    exact ⟨rfl, by show b.at_ ≤ b.at_ + 1; omega, fun h => by show b.at_ < b.at_ + 1; omega⟩
def J0z (lsn rec : Int) : T_api_Frame := ⟨⟨4, lsn, J3g⟩, decide (rec > 0), rec, true⟩
def dp (lsn rec : Int) : T_api_Pool := ⟨1, [J0z lsn rec], 0⟩
section
variable {lsn rec : Int} (h0 : 0 ≤ rec) (h1 : rec ≤ lsn) (h2 : lsn ≤ 1000)
include h0 h1 h2
theorem JdH : J7S (dp lsn rec) := by
  refine ⟨by show (1 : Int) ≤ 1; omega, by show (1 : Int) ≤ 64; omega, by show ((1 : Nat) : Int) ≤ 1; omega, by show (0 : Int) ≤ 0; omega, by show (0 : Int) < J71 1 ((1 : Nat) : Int); decide, ?_, ?_⟩
  · intro k hk
    have hk' : k < 1 := hk
    obtain rfl : k = 0 := by omega
    show Jei (J0z lsn rec)
    refine ⟨J8F (by omega) (by omega) (by omega) (by omega), fun hd => ?_, fun hd => ?_⟩
    · have : rec > 0 := by simpa [J0z] using hd
      exact ⟨by show 1 ≤ rec; omega, h1⟩
    · have : ¬ rec > 0 := by simpa [J0z] using hd
      show rec = 0
      omega
  · intro i j hi hj _
    have hi' : i < 1 := hi
    have hj' : j < 1 := hj
    omega
theorem Jld : J3Q (dp lsn rec) = some (if rec > 0 then [⟨4, rec, lsn⟩] else []) := by
  have hl : (((dp lsn rec).Frames.length : Nat) : Int) = 1 := rfl
  have c0 : (0 : Int) < 1 := by omega
  have c1 : ¬ (1 : Int) < 1 := by omega
  have g : idx (dp lsn rec).Frames 0 = some (J0z lsn rec) := rfl
  have w : IntKind.wrap .i64 ((0 : Int) + 1) = 1 := rfl
  have srt : ∀ l : List T_api_Dirty, l = [] ∨ (∃ x, l = [x]) → J02 l = some l := by
    rintro l (rfl | ⟨x, rfl⟩)
    · simp [J02, J6s, J64]
    · simp [J02, J6s, J64]
  have last : ∀ l : List T_api_Dirty, l = [] ∨ (∃ x, l = [x]) → J1s (dp lsn rec).Frames 1 1 l = some (.inr l) := by
    intro l hl
    simp only [J1s, c1, decide_false, Bool.false_eq_true, if_false, J6k, srt l hl, Option.bind_some, Option.map_some]
  simp only [J3Q, J4m (JdH h0 h1 h2), Option.bind_some, if_true, hl]
  by_cases hr : rec > 0
  · rw [if_pos hr]
    have a : J1s (dp lsn rec).Frames 1 0 [] = some (.inl (1, [⟨4, rec, lsn⟩])) := by
      have ap : JhH 24 ([] : List T_api_Dirty) [(⟨4, rec, lsn⟩ : T_api_Dirty)] = some [⟨4, rec, lsn⟩] := rfl
      have d : (J0z lsn rec).Dirty = true := by simpa [J0z] using hr
      have ap' : JhH 24 ([] : List T_api_Dirty) [(⟨(J0z lsn rec).Page.ID, (J0z lsn rec).Rec, (J0z lsn rec).Page.LSN⟩ : T_api_Dirty)] = some [⟨4, rec, lsn⟩] := ap
      simp only [J1s, c0, decide_true, if_true, g, Option.bind_some, d, ap', w]
    exact (J3C a).trans (J2v (last _ (.inr ⟨_, rfl⟩)))
  · rw [if_neg hr]
    have a : J1s (dp lsn rec).Frames 1 0 [] = some (.inl (1, [])) := by
      have d : (J0z lsn rec).Dirty = false := by simpa [J0z] using hr
      simp only [J1s, c0, decide_true, if_true, g, Option.bind_some, d, Bool.false_eq_true, if_false, w]
    exact (J3C a).trans (J2v (last _ (.inl rfl)))
theorem JbU : J10 (dp lsn rec) 4 = some 0 := by
  rw [J7e (by show 1 < 1000000; omega)]
  rfl
theorem Jn7 : ∃ r, J2f (dp lsn rec) 4 = some r ∧ ((r.2 == 23) = decide (rec > 0)) := by
  have hok := JdH h0 h1 h2
  by_cases hr : rec > 0
  · have g : idx (dp lsn rec).Frames 0 = some (J0z lsn rec) := rfl
    have d : (J0z lsn rec).Dirty = true := by simpa [J0z] using hr
    have c : ¬ (0 : Int) < 0 := by omega
    refine ⟨(⟨0, [], 0⟩, 23), ?_, by simp [hr]⟩
    simp only [J2f, J4m hok, JbU h0 h1 h2, Option.bind_some, if_true, c, decide_false, Bool.false_eq_true, if_false, g, d]
  · refine ⟨_, Jml hok (id := 4) (k := 0) rfl (fun _ => ?_), by simp [hr]⟩
    show (J0z lsn rec).Dirty = false
    simpa [J0z] using hr
theorem JoG : J5f (dp lsn rec) 4 = some (⟨4, lsn, J3g⟩, true) := by
  have c : (0 : Int) ≥ 0 := by omega
  have g : idx (dp lsn rec).Frames 0 = some (J0z lsn rec) := rfl
  simp only [J5f, J5y, J4m (JdH h0 h1 h2), JbU h0 h1 h2, Option.bind_some, if_true, c, decide_true, g]
  rfl
theorem JgE (b : T_pagemenddraw_Codes) : J0k lsn rec b (dp lsn rec) = some (.inl (lsn, rec, b, dp lsn rec)) := by
  obtain ⟨r, e, hr⟩ := Jn7 h0 h1 h2
  simp only [J0k, Jld h0 h1 h2, Option.bind_some]
  by_cases c : rec > 0
  · have e1 : ((((List.length [(⟨4, rec, lsn⟩ : T_api_Dirty)] : Nat) : Int) == 1) == true) = true := rfl
    have g : idx [(⟨4, rec, lsn⟩ : T_api_Dirty)] 0 = some ⟨4, rec, lsn⟩ := rfl
    have hr' : (r.2 == 23) = true := by rw [hr]; simpa using c
    simp only [c, if_true, decide_true, e1, g, Option.bind_some, beq_self_eq_true, e, hr']
  · have e1 : ((((List.length ([] : List T_api_Dirty) : Nat) : Int) == 1) == false) = true := rfl
    have hr' : (r.2 == 23) = false := by rw [hr]; simpa using c
    simp only [c, if_false, decide_false, e1, if_true, Bool.false_eq_true, e, Option.bind_some, hr', beq_self_eq_true]
theorem Jky {m : Int} (hm : lsn < m) (hm2 : m ≤ 1000) : J2G (dp lsn rec) ⟨4, m, J3g⟩ = some (dp m (if rec == 0 then m else rec), 0) := by
  have hx : J8L ⟨4, m, J3g⟩ := J8F (by omega) (by omega) (by omega) (by omega)
  have d0 : ((0 : Int) != 0) = false := rfl
  have c : ¬ (0 : Int) < 0 := by omega
  have g : idx (dp lsn rec).Frames 0 = some (J0z lsn rec) := rfl
  have c2 : ¬ m ≤ (J0z lsn rec).Page.LSN := by show ¬ m ≤ lsn; omega
  have hw : ∀ f, J3c 0 (dp lsn rec) (⟨0, ([] : List T_api_Frame), 0⟩ : T_api_Pool) f = some (⟨1, [f], 0⟩, 0) := by
    intro f
    have := Jfv (l := (dp lsn rec).Frames) (by show 1 ≤ 1000; omega) (k := 0) (by show 0 < 1; omega) f
    have this : J0i (dp lsn rec).Frames 0 f = some [f] := this
    simp only [J3c, this, Option.bind_some]
    rfl
  have hf : J10 (dp lsn rec) (⟨4, m, J3g⟩ : J9).ID = some 0 := JbU h0 h1 h2
  simp only [J2G, J4m (JdH h0 h1 h2), Jf8 hx, hf, Option.bind_some, if_true, d0, c, decide_false, Bool.false_eq_true, if_false, g, c2, hw]
  by_cases hr : rec > 0
  · have d : (J0z lsn rec).Dirty = true := by simpa [J0z] using hr
    have e : (rec == 0) = false := by have : rec ≠ 0 := by omega
                                      simpa using this
    simp only [d, if_true, e, Bool.false_eq_true, if_false]
    unfold dp J0z
    simp [hr]
  · have d : (J0z lsn rec).Dirty = false := by simpa [J0z] using hr
    have e : rec = 0 := by omega
    subst e
    simp only [d, Bool.false_eq_true, if_false, beq_self_eq_true, if_true]
    unfold dp J0z
    have : m > 0 := by omega
    simp [this]
theorem Jm9 {n : Int} (hn : 0 ≤ n) (hn2 : n ≤ lsn) : J3M (dp lsn rec) 4 n = some (dp lsn (if n == lsn then 0 else if rec > 0 ∧ rec ≤ n then n + 1 else rec), 0) := by
  have c : ¬ (0 : Int) < 0 := by omega
  have g : idx (dp lsn rec).Frames 0 = some (J0z lsn rec) := rfl
  have c2 : ¬ n > (J0z lsn rec).Page.LSN := by show ¬ n > lsn; omega
  have hw : ∀ f, J2W 0 (dp lsn rec) (⟨0, ([] : List T_api_Frame), 0⟩ : T_api_Pool) f = some (⟨1, [f], 0⟩, 0) := by
    intro f
    have := Jfv (l := (dp lsn rec).Frames) (by show 1 ≤ 1000; omega) (k := 0) (by show 0 < 1; omega) f
    have this : J0i (dp lsn rec).Frames 0 f = some [f] := this
    simp only [J2W, this, Option.bind_some]
    rfl
  simp only [J3M, J4m (JdH h0 h1 h2), JbU h0 h1 h2, Option.bind_some, if_true, c, decide_false, Bool.false_eq_true, if_false, g, c2, hw]
  by_cases hr : rec > 0
  · have d : (J0z lsn rec).Dirty = true := by simpa [J0z] using hr
    have el : (J0z lsn rec).Page.LSN = lsn := rfl
    have er : (J0z lsn rec).Rec = rec := rfl
    simp only [d, if_true, el, er]
    by_cases e : n = lsn
    · subst e
      simp only [beq_self_eq_true, if_true]
      rfl
    · have e' : (n == lsn) = false := by simpa using e
      simp only [e', Bool.false_eq_true, if_false]
      by_cases e2 : rec ≤ n
      · have w : IntKind.wrap .i64 (n + 1) = n + 1 := J4w (by omega) (by omega)
        simp only [e2, decide_true, if_true, hr, and_self, w]
        unfold dp J0z
        have : n + 1 > 0 := by omega
        simp [this, hr]
      · simp only [e2, decide_false, Bool.false_eq_true, if_false, and_false]
        rfl
  · have d : (J0z lsn rec).Dirty = false := by simpa [J0z] using hr
    have e : rec = 0 := by omega
    subst e
    simp only [d, Bool.false_eq_true, if_false]
    have : ¬ ((0 : Int) > 0 ∧ (0 : Int) ≤ n) := by omega
    rw [if_neg this, ite_self]
theorem Jot {b : T_pagemenddraw_Codes} (hb : J4b b) (h3 : lsn + 3 * ((b.l_.length : Int) - b.at_) ≤ 900) :
    (∃ m r b', J16 lsn rec b (dp lsn rec) = some (.inl (m, r, b', dp m r)) ∧ J4b b' ∧ 0 ≤ r ∧ r ≤ m ∧ m + 3 * ((b'.l_.length : Int) - b'.at_) ≤ 900 ∧ ((b'.l_.length : Int) - b'.at_).toNat < ((b.l_.length : Int) - b.at_).toNat) ∨
      J16 lsn rec b (dp lsn rec) = some (.inr true) := by
  have a0 := hb.at0
  have a1 := hb.at1
  have al := hb.len
  have w0 : IntKind.wrap .i64 (((b.l_.length : Nat) : Int) - b.at_) = ((b.l_.length : Nat) : Int) - b.at_ := J4w (by omega) (by omega)
  have d0 : ((0 : Int) != 0) = false := rfl
  simp only [J16, J3u, Option.bind_some, w0]
  by_cases hl : ((b.l_.length : Nat) : Int) - b.at_ > 0
  · left
    simp only [hl, decide_true, if_true]
    obtain ⟨x, b1, e1, hb1, x0, x1, l1, m1, s1⟩ := JaZ hb (n := 3) (by omega) (by omega)
    have s1 := s1 (by omega)
    have b11 := hb1.at1
    rw [l1] at b11
    simp only [e1, Option.bind_some]
    by_cases hx : x > 0
    · simp only [hx, decide_true, if_true]
      obtain ⟨y, b2, e2, hb2, y0, y1, l2, m2, _⟩ := JaZ hb1 (n := 3) (by omega) (by omega)
      have b21 := hb2.at1
      rw [l2, l1] at b21
      have w1 : IntKind.wrap .i64 (1 + y) = 1 + y := J4w (by omega) (by omega)
      have w2 : IntKind.wrap .i64 (lsn + (1 + y)) = lsn + (1 + y) := J4w (by omega) (by omega)
      have u := Jky h0 h1 h2 (m := lsn + (1 + y)) (by omega) (by omega)
      have u' : J2G (dp lsn rec) ⟨4, lsn + (1 + y), Vector.replicate 16 (⟨false, []⟩ : Je)⟩ = _ := u
      simp only [e2, Option.bind_some, w1, w2, u', d0, Bool.false_eq_true, if_false]
      by_cases hr : rec = 0
      · subst hr
        simp only [beq_self_eq_true, if_true]
        refine ⟨lsn + (1 + y), lsn + (1 + y), b2, JgE (by omega) (by omega) (by omega) b2, hb2, by omega, by omega, ?_, ?_⟩
        · rw [l2, l1]; omega
        · rw [l2, l1]; omega
      · have er : (rec == 0) = false := by simpa using hr
        simp only [er, Bool.false_eq_true, if_false]
        refine ⟨lsn + (1 + y), rec, b2, JgE (by omega) (by omega) (by omega) b2, hb2, by omega, by omega, ?_, ?_⟩
        · rw [l2, l1]; omega
        · rw [l2, l1]; omega
    · simp only [hx, decide_false, Bool.false_eq_true, if_false]
      obtain ⟨y, b2, e2, hb2, y0, y1, l2, m2, _⟩ := JaZ hb1 (n := 4) (by omega) (by omega)
      have b21 := hb2.at1
      rw [l2, l1] at b21
      have w1 : IntKind.wrap .i64 (lsn - y) = lsn - y := J4w (by omega) (by omega)
      obtain ⟨n, hn⟩ : ∃ n, n = J71 0 (lsn - y) := ⟨_, rfl⟩
      have n0 : 0 ≤ n ∧ n ≤ lsn := by rw [hn]; unfold J71; split <;> omega
      have u := Jm9 h0 h1 h2 n0.1 n0.2
      simp only [e2, Option.bind_some, w1, ← hn, u, d0, Bool.false_eq_true, if_false]
      have t1 : ∀ r : Int, 0 ≤ r → r ≤ lsn → ∃ m r' b', J0k lsn r b2 (dp lsn r) = some (.inl (m, r', b', dp m r')) ∧ J4b b' ∧ 0 ≤ r' ∧ r' ≤ m ∧ m + 3 * ((b'.l_.length : Int) - b'.at_) ≤ 900 ∧ ((b'.l_.length : Int) - b'.at_).toNat < ((b.l_.length : Int) - b.at_).toNat := by
        intro r hr0 hr1
        refine ⟨lsn, r, b2, JgE hr0 hr1 h2 b2, hb2, hr0, hr1, ?_, ?_⟩
        · rw [l2, l1]; omega
        · rw [l2, l1]; omega
      by_cases e : n = lsn
      · subst e
        simp only [beq_self_eq_true, if_true]
        exact t1 0 (by omega) (by omega)
      · have e' : (n == lsn) = false := by simpa using e
        simp only [e', Bool.false_eq_true, if_false]
        by_cases hr : rec > 0
        · by_cases hrn : rec ≤ n
          · have w2 : IntKind.wrap .i64 (n + 1) = n + 1 := J4w (by omega) (by omega)
            have hc : rec > 0 ∧ rec ≤ n := ⟨hr, hrn⟩
            simp only [if_pos hc, hr, hrn, decide_true, if_true, w2]
            exact t1 (n + 1) (by omega) (by omega)
          · have hc : ¬ (rec > 0 ∧ rec ≤ n) := fun h => hrn h.2
            simp only [if_neg hc, hr, hrn, decide_true, decide_false, if_true, Bool.false_eq_true, if_false]
            exact t1 rec h0 h1
        · have hc : ¬ (rec > 0 ∧ rec ≤ n) := fun h => hr h.1
          simp only [if_neg hc, hr, decide_false, Bool.false_eq_true, if_false]
          exact t1 rec h0 h1
  · right
    have hv : J2I ⟨4, lsn, J3g⟩ = some true := by
      rw [JjX]
      obtain ⟨v, e, hv⟩ := Jff ⟨4, lsn, J3g⟩
      rw [e, hv.2 (J8F (by omega) (by omega) (by omega) (by omega))]
    simp only [hl, decide_false, Bool.false_eq_true, if_false, J3X, JoG h0 h1 h2, Option.bind_some, if_true, beq_self_eq_true, hv, Option.map_some]
end
theorem Jcr {l : List Int} (h : List.length l ≤ maxLen ∧ ∀ x ∈ l, 0 ≤ x ∧ x ≤ 255) : J3v l = some true := by
  obtain ⟨b0, a1, hb0⟩ := Jnm h (n := 120) (by omega)
  have a1' : J3A l 120 = some b0 := a1
  have hlen : b0.l_.length ≤ 120 ∧ b0.at_ = 0 := by
    have e := a1'
    unfold J3A J4W at e
    by_cases hc : ((l.length : Nat) : Int) > 120
    · have hs : Jd7 l none (some 120) = some (l.take 120) := by
        have e2 : 120 ≤ l.length := by omega
        have e3 : (0 : Int) ≤ 120 ∧ (120 : Int) ≤ l.length := by omega
        have e4 : (120 : Int) ≤ (l.length : Int) := e3.2
        simp [Jd7, Jh0, Jdd, e4]
      simp only [hc, decide_true, if_true, hs, Option.bind_some] at e
      injection e with e
      subst e
      exact ⟨by show (l.take 120).length ≤ 120; rw [List.length_take]; omega, rfl⟩
    · simp only [hc, decide_false, Bool.false_eq_true, if_false] at e
      injection e with e
      subst e
      exact ⟨by show l.length ≤ 120; omega, rfl⟩
  have d0 : ((0 : Int) != 0) = false := rfl
  have p1 : J31 1 = some (plz 0 1 [] 0, 0) := Jh2 (n := 1) (by omega) (by omega)
  have p2 : J1M (plz 0 1 [] 0) ⟨4, 0, J3g⟩ = some (dp 0 0, 0) := Jet (b := 4) (n := 1) (l := []) (by omega) (by omega) (by simp)
  have p2' : J1M (plz 0 1 [] 0) ⟨4, 0, Vector.replicate 16 (⟨false, []⟩ : Je)⟩ = _ := p2
  unfold J3v
  simp only [Jj1, Option.bind_some, if_true, a1', p1, p2', d0, Bool.false_eq_true, if_false]
  obtain ⟨o, ho, rfl⟩ := J32 (f := fun s : Int × Int × T_pagemenddraw_Codes × T_api_Pool => J16 s.1 s.2.1 s.2.2.1 s.2.2.2)
    (fun s => s.2.2.2 = dp s.1 s.2.1 ∧ 0 ≤ s.2.1 ∧ s.2.1 ≤ s.1 ∧ J4b s.2.2.1 ∧ s.1 + 3 * ((s.2.2.1.l_.length : Int) - s.2.2.1.at_) ≤ 900) (fun s => ((s.2.2.1.l_.length : Int) - s.2.2.1.at_).toNat) (fun o => o = true)
    (fun s ⟨e, q0, q1, hc, q2⟩ => by
      obtain ⟨lsn, rec, b, p⟩ := s
      simp only at e q0 q1 hc q2
      subst e
      have hc1 := hc.at1
      rcases Jot q0 q1 (by omega) hc q2 with ⟨m, r, b', e, hb', r0, r1, r2, r3⟩ | e
      · exact .inl ⟨_, e, ⟨rfl, r0, r1, hb', r2⟩, r3⟩
      · exact .inr ⟨true, e, rfl⟩) (0, 0, b0, dp 0 0) ⟨rfl, by show (0 : Int) ≤ 0; omega, by show (0 : Int) ≤ 0; omega, hb0, by show (0 : Int) + 3 * ((b0.l_.length : Int) - b0.at_) ≤ 900; omega⟩
  exact ho
end Go.Am
end
section
namespace Go.Am
section
variable (P : Program)
def J7k : Nat → TypeId → Bool
  | 0, _ => false
  | n + 1, t => match P.underlying t with
    | some .bool => true
    | some (.int _) => true
    | some .string => true
    | some (.slice e) => J7k n e && decide (t < P.types.size ∧ 0 < P.cellsOf e)
    | some (.struct fs) => fs.toList.all (fun f => J7k n f.type) && decide (t < P.types.size)
    | some (.array _ e) => J7k n e && decide (t < P.types.size)
    | _ => false
def J7q : Nat → TypeId → List PV → Prop
  | 0, _, _ => False
  | n + 1, t, pvs => match P.underlying t with
    | some .bool => ∃ b, pvs = [.b b]
    | some (.int k) => ∃ z, pvs = [.i k z] ∧ (Lit.int k z).wf = true
    | some .string => ∃ l, pvs = [.s l] ∧ l.length ≤ maxLen
    | some (.slice e) => ∃ rows, pvs = [.sl (P.cellsOf e) rows] ∧ rows.length ≤ maxLen ∧ ∀ row ∈ rows, row.length = P.cellsOf e ∧ J7q n e row
    | some (.struct fs) => pvs.length = P.cellsOf t ∧ ∀ f ∈ fs.toList, J7q n f.type ((pvs.drop f.offset).take (P.cellsOf f.type))
    | some (.array m e) => pvs.length = P.cellsOf t ∧ ∀ i, i < m → J7q n e ((pvs.drop (i * P.cellsOf e)).take (P.cellsOf e))
    | _ => False
end
section
variable {H : Type} {enc : TypeId × Value → H} {P : Program} {w : World} {base : Nat} {sp : Nat → Bool} {held : Bool}
def Jjn (w : World) (pvs : List PV) (cs : List Value) : Prop :=
  pvs.length = cs.length ∧ ∀ (i : Nat) p v, pvs[i]? = some p → cs[i]? = some v → JH w (fun r _ => r < w.heap.size) p v
theorem Jfg {a : Addr} {v : Value} (h : w.cell? a = some v) : a.spot = none ∧ J04 w a.block a.off = some v ∧ a.block < w.heap.size := by
  unfold World.cell? at h
  unfold J04
  split at h
  · rename_i c t fz hb
    split at h
    · cases h
    · rename_i hs
      refine ⟨by simpa using hs, by rw [hb]; exact h, ?_⟩
      have := Array.getElem?_eq_some_iff.1 hb
      exact this.1
  · cases h
theorem Jlt {a : Addr} {n : Nat} {cs : List Value} (h : w.cells? base a n = some cs) : cs.length = n ∧ ∀ i v, cs[i]? = some v → w.cell? (a.add i) = some v := by
  unfold World.cells? at h
  split at h
  · have hl := mapM_some_length h
    refine ⟨by simpa using hl, fun i v hv => ?_⟩
    have hi : i < n := by
      have := (List.getElem?_eq_some_iff.1 hv).1
      simp at hl; omega
    have := mapM_some_get h i i (by simp [hi])
    rw [this, hv]
  · cases h
theorem JdF {α : Type} (Q : Nat → α → Prop) : ∀ (m : Nat), (∀ i, i < m → ∃ x, Q i x) → ∃ xs : List α, xs.length = m ∧ ∀ i x, xs[i]? = some x → Q i x
  | 0, _ => ⟨[], rfl, fun i x h => by simp at h⟩
  | m + 1, h => by
    obtain ⟨xs, hl, hx⟩ := JdF Q m (fun i hi => h i (by omega))
    obtain ⟨y, hy⟩ := h m (by omega)
    refine ⟨xs ++ [y], by simp [hl], fun i x hi => ?_⟩
    rcases Nat.lt_or_ge i xs.length with hlt | hge
    · rw [List.getElem?_append_left hlt] at hi; exact hx i x hi
    · rw [List.getElem?_append_right hge] at hi
      have : i - xs.length = 0 := by
        have := (List.getElem?_eq_some_iff.1 hi).1
        simp at this; omega
      rw [this] at hi
      simp at hi; subst hi
      obtain rfl : i = m := by omega
      exact hy
theorem Jb3 {α : Type} : ∀ (xs : List (List α)) (j : Nat) (y : List α), xs[j]? = some y → (xs.flatten.drop ((xs.take j).map List.length).sum).take y.length = y
  | [], j, y, h => by simp at h
  | x :: xs, 0, y, h => by simp at h; subst h; simp
  | x :: xs, j + 1, y, h => by
    simp at h
    have := Jb3 xs j y h
    simp only [List.take_succ_cons, List.map_cons, List.sum_cons, List.flatten_cons, List.drop_length_add_append]
    exact this
theorem Jng (hl : laidOutB P = true) (hm : mapsRowed P = true) : ∀ (n : Nat) (t : TypeId) (cs : List Value) (x : DataW H × List MemPlace) (fuel : Nat), J7k P n t = true → DataW.trod enc P w base sp held fuel t cs = some x →
    ∃ pvs, J7q P n t pvs ∧ Jjn w pvs cs := by
  have K := kids_rows hl hm
  intro n
  induction n with
  | zero => intro t cs x fuel hp; simp [J7k] at hp
  | succ n ih =>
    intro t cs x fuel hp h
    unfold J7k at hp
    unfold J7q
    split at hp
    · rename_i ht
      obtain ⟨b, rfl, _⟩ := DataW.trod_bool ht h
      refine ⟨[.b b], by simp, rfl, fun i p v h1 h2 => ?_⟩
      match i with
      | 0 => simp at h1 h2; subst h1 h2; exact .b _
      | i + 1 => simp at h1
    · rename_i k ht
      obtain ⟨z, rfl, _, hwf⟩ := DataW.trod_int ht h
      refine ⟨[.i k z], by simpa using hwf, rfl, fun i p v h1 h2 => ?_⟩
      match i with
      | 0 => simp at h1 h2; subst h1 h2; exact .i _ _
      | i + 1 => simp at h1
    · rename_i ht
      obtain ⟨s, rfl, _, hsz⟩ := DataW.trod_string ht h
      refine ⟨[.s s.data.toList], ⟨_, rfl, by rw [Array.length_toList]; exact hsz⟩, rfl, fun i p v h1 h2 => ?_⟩
      match i with
      | 0 => simp at h1 h2; subst h1 h2; exact .s _
      | i + 1 => simp at h1
    · rename_i e ht
      simp only [Bool.and_eq_true, decide_eq_true_eq] at hp
      rcases DataW.trod_slice ht h with ⟨rfl, _⟩ | ⟨a, len, cap, elems, rest, n0, _, rfl, _, _, hlc, hcm, hel, hat, _⟩
      · refine ⟨[.sl (P.cellsOf e) []], ⟨[], rfl, Nat.zero_le _, by simp⟩, rfl, fun i p v h1 h2 => ?_⟩
        match i with
        | 0 => simp at h1 h2; subst h1 h2; exact .sl0 _ _ _
        | i + 1 => simp at h1
      ·
        have hrow : ∀ i, i < len → ∃ row : List PV, (row.length = P.cellsOf e ∧ J7q P n e row) ∧ ∀ j p, row[j]? = some p → ∃ v, w.cell? (a.add (i * P.cellsOf e) |>.add j) = some v ∧ JH w (fun r _ => r < w.heap.size) p v := by
          intro i hi
          have h1 := hat i hi
          have h2 : ∃ y, elems[i]? = some y := ⟨_, List.getElem?_eq_getElem (by omega)⟩
          obtain ⟨y, hy⟩ := h2
          rw [hy, Option.bind_eq_some_iff] at h1
          obtain ⟨cs', hc, ht'⟩ := h1
          obtain ⟨row, q1, q2, q3⟩ := ih e cs' y n0 hp.1 ht'
          obtain ⟨c1, c2⟩ := Jlt hc
          refine ⟨row, ⟨by omega, q1⟩, fun j p hj => ?_⟩
          have hlt : j < cs'.length := by have := (List.getElem?_eq_some_iff.1 hj).1; omega
          have hv := List.getElem?_eq_getElem hlt
          exact ⟨_, c2 j _ hv, q3 j p _ hj hv⟩
        obtain ⟨rows, hrl, hrows⟩ := JdF _ len hrow
        refine ⟨[.sl (P.cellsOf e) rows], ⟨rows, rfl, by omega, fun row hr => ?_⟩, rfl, fun i p v h1 h2 => ?_⟩
        · obtain ⟨i, hi⟩ := List.getElem?_of_mem hr
          exact (hrows i row hi).1
        match i with
        | i + 1 => simp at h1
        | 0 =>
          simp at h1 h2; subst h1 h2
          by_cases h0 : ∃ (i j : Nat) (row : List PV) (p : PV), rows[i]? = some row ∧ row[j]? = some p
          · obtain ⟨i0, j0, row0, p0, hr0, hp0⟩ := h0
            have spot : a.spot = none ∨ P.cellsOf e = 0 := by
              rcases Nat.eq_zero_or_pos (P.cellsOf e) with hz | hpos
              · exact .inr hz
              · have hlen : 0 < len := by have := (List.getElem?_eq_some_iff.1 hr0).1; omega
                have hr00 := List.getElem?_eq_getElem (l := rows) (i := 0) (by omega)
                have q := hrows 0 _ hr00
                have hj0 := List.getElem?_eq_getElem (l := rows[0]'(by omega)) (i := 0) (by omega)
                obtain ⟨v, hv, _⟩ := q.2 0 _ hj0
                rw [Nat.zero_mul] at hv
                exact .inl (by simpa [Addr.add] using (Jfg hv).1)
            rcases spot with spot | hz
            · have cell : ∀ (i j : Nat) (row : List PV) (p : PV), rows[i]? = some row → row[j]? = some p → ∃ v, (a.block < w.heap.size ∧ J04 w a.block (a.off + i * P.cellsOf e + j) = some v) ∧ JH w (fun r _ => r < w.heap.size) p v := by
                intro i j row p hi hj
                obtain ⟨v, hv, hr⟩ := (hrows i row hi).2 j p hj
                obtain ⟨s1, s2, s3⟩ := Jfg hv
                refine ⟨v, ?_, hr⟩
                have e1 : ((a.add (i * P.cellsOf e)).add j).block = a.block := by unfold Addr.add; split <;> split <;> rfl
                have e2 : ((a.add (i * P.cellsOf e)).add j).off = a.off + i * P.cellsOf e + j := by
                  unfold Addr.add
                  split <;> split <;> simp_all
                rw [e1] at s3
                rw [e1, e2] at s2
                exact ⟨s3, s2⟩
              have ea : a = ⟨a.block, a.off, none⟩ := by cases a; simp_all
              rw [ea, ← hrl]
              refine .sl _ rows a.block a.off cap (fun i j => ((J04 w a.block (a.off + i * P.cellsOf e + j)).getD default)) (by omega) (fun row hr => ?_) (fun i j row p hi hj => ?_) (fun i j row p hi hj => ?_)
              · obtain ⟨i, hi⟩ := List.getElem?_of_mem hr
                exact (hrows i row hi).1.1
              · obtain ⟨v, ⟨h3, h4⟩, _⟩ := cell i j row p hi hj
                exact ⟨h3, by rw [h4]; rfl⟩
              · obtain ⟨v, ⟨h3, h4⟩, h5⟩ := cell i j row p hi hj
                rw [h4]; exact h5
            · have := (hrows i0 row0 hr0).1.1
              have := (List.getElem?_eq_some_iff.1 hp0).1
              omega
          ·
            rcases Nat.eq_zero_or_pos len with hz | hpos
            · have : rows = [] := by cases rows <;> simp_all
              subst this
              subst hz
              exact .sl0 _ _ _
            · exfalso
              have hr00 := List.getElem?_eq_getElem (l := rows) (i := 0) (by omega)
              have q := (hrows 0 _ hr00).1.1
              exact h0 ⟨0, 0, _, _, hr00, List.getElem?_eq_getElem (by omega)⟩
    · rename_i fs ht
      simp only [Bool.and_eq_true, decide_eq_true_eq, List.all_eq_true] at hp
      obtain ⟨xs, n0, _, _, hcl, hxl, hat⟩ := DataW.trod_struct ht h
      obtain ⟨_, ksum, koff⟩ := K.struct hp.2 ht
      have hf : ∀ i, i < fs.toList.length → ∃ ys : List PV, ∀ f, fs.toList[i]? = some f → J7q P n f.type ys ∧ Jjn w ys ((cs.drop f.offset).take (P.cellsOf f.type)) := by
        intro i hi
        have hfi := List.getElem?_eq_getElem hi
        have hmem := List.mem_of_getElem? hfi
        have hfa : fs[i]? = some (fs.toList[i]) := by rw [← Array.getElem?_toList]; exact hfi
        have h1 := hat i _ hfa
        have h2 : ∃ y, xs[i]? = some y := ⟨_, List.getElem?_eq_getElem (by simpa [hxl] using hi)⟩
        obtain ⟨y, hy⟩ := h2
        rw [hy] at h1
        obtain ⟨ys, q1, q2⟩ := ih _ _ _ _ (hp.1 _ hmem) h1
        refine ⟨ys, fun f hff => ?_⟩
        rw [hfi] at hff; injection hff with hff; subst hff
        exact ⟨q1, q2⟩
      obtain ⟨yss, hyl, hys⟩ := JdF _ _ hf
      have hlen : ∀ (j : Nat) (f : Field), fs.toList[j]? = some f → ∀ ys : List PV, yss[j]? = some ys → ys.length = P.cellsOf f.type := by
        intro j f hj ys hy
        have q := (hys j ys hy f hj).2.1
        have o := koff j f hj
        rw [q, List.length_take, List.length_drop, hcl, ksum, o]
        have : ((fs.toList.take j).map fun f => P.cellsOf f.type).sum + P.cellsOf f.type ≤ (fs.toList.map fun f => P.cellsOf f.type).sum := by
          have e1 : fs.toList = fs.toList.take j ++ (f :: fs.toList.drop (j + 1)) := by
            have hjl := (List.getElem?_eq_some_iff.1 hj)
            obtain ⟨hjl, he⟩ := hjl
            rw [← he, ← List.drop_eq_getElem_cons hjl, List.take_append_drop]
          conv => rhs; rw [e1]
          simp only [List.map_append, List.map_cons, List.sum_append, List.sum_cons]
          omega
        omega
      have hmapl : yss.map List.length = fs.toList.map fun f => P.cellsOf f.type := by
        apply List.ext_getElem?
        intro j
        rw [List.getElem?_map, List.getElem?_map]
        cases hy : yss[j]? with
        | none =>
          have : fs.toList[j]? = none := by rw [List.getElem?_eq_none_iff] at hy ⊢; omega
          rw [this]; rfl
        | some ys =>
          have hj : j < fs.toList.length := by have := (List.getElem?_eq_some_iff.1 hy).1; omega
          have hfj := List.getElem?_eq_getElem hj
          rw [hfj]
          simp only [Option.map_some]
          rw [hlen j _ hfj ys hy]
      have hoff : ∀ (j : Nat) (f : Field), fs.toList[j]? = some f → ((yss.take j).map List.length).sum = f.offset := by
        intro j f hj
        rw [koff j f hj, List.map_take, hmapl, ← List.map_take]
      refine ⟨yss.flatten, ⟨?_, fun f hf => ?_⟩, ?_, fun i p v h1 h2 => ?_⟩
      · rw [List.length_flatten, hmapl, ksum]
      · obtain ⟨j, hj⟩ := List.getElem?_of_mem hf
        have hjl : j < yss.length := by have := (List.getElem?_eq_some_iff.1 hj).1; omega
        have hyj := List.getElem?_eq_getElem hjl
        have := Jb3 yss j _ hyj
        rw [hoff j f hj, hlen j f hj _ hyj] at this
        rw [this]
        exact (hys j _ hyj f hj).1
      · rw [List.length_flatten, hmapl, hcl, ksum]
      ·
        have key : ∀ (l : List (List PV)) (i : Nat) p, l.flatten[i]? = some p → ∃ j ys k, l[j]? = some ys ∧ ys[k]? = some p ∧ i = ((l.take j).map List.length).sum + k := by
          intro l
          induction l with
          | nil => intro i p h; simp at h
          | cons y l ihl =>
            intro i p h
            rw [List.flatten_cons] at h
            rcases Nat.lt_or_ge i y.length with hlt | hge
            · rw [List.getElem?_append_left hlt] at h
              exact ⟨0, y, i, rfl, h, by simp⟩
            · rw [List.getElem?_append_right hge] at h
              obtain ⟨j, ys, k, a1, a2, a3⟩ := ihl _ _ h
              exact ⟨j + 1, ys, k, by simpa using a1, a2, by simp only [List.take_succ_cons, List.map_cons, List.sum_cons]; omega⟩
        obtain ⟨j, ys, k, a1, a2, a3⟩ := key _ _ _ h1
        have hj : j < fs.toList.length := by have := (List.getElem?_eq_some_iff.1 a1).1; omega
        have hfj := List.getElem?_eq_getElem hj
        have q := (hys j ys a1 _ hfj).2
        refine q.2 k p v a2 ?_
        have hk : k < P.cellsOf (fs.toList[j]).type := by have := (List.getElem?_eq_some_iff.1 a2).1; rw [hlen j _ hfj ys a1] at this; exact this
        rw [List.getElem?_take_of_lt hk, List.getElem?_drop, ← hoff j _ hfj, ← a3]
        exact h2
    · rename_i m e ht
      simp only [Bool.and_eq_true, decide_eq_true_eq] at hp
      obtain ⟨xs, n0, _, _, hcl, hxl, hat⟩ := DataW.trod_array ht h
      obtain ⟨_, ksz⟩ := K.array hp.2 ht
      have hf : ∀ i, i < m → ∃ ys : List PV, J7q P n e ys ∧ Jjn w ys ((cs.drop (i * P.cellsOf e)).take (P.cellsOf e)) := by
        intro i hi
        have h1 := hat i hi
        have h2 : ∃ y, xs[i]? = some y := ⟨_, List.getElem?_eq_getElem (by omega)⟩
        obtain ⟨y, hy⟩ := h2
        rw [hy] at h1
        exact ih _ _ _ _ hp.1 h1
      obtain ⟨yss, hyl, hys⟩ := JdF _ _ hf
      have hlen : ∀ (j : Nat) ys, yss[j]? = some ys → ys.length = P.cellsOf e := by
        intro j ys hy
        have q := (hys j ys hy).2.1
        have hj : j < m := by have := (List.getElem?_eq_some_iff.1 hy).1; omega
        rw [q, List.length_take, List.length_drop, hcl, ksz]
        have : j * P.cellsOf e + P.cellsOf e ≤ m * P.cellsOf e := by rw [← Nat.succ_mul]; exact Nat.mul_le_mul_right _ hj
        omega
      have hall : ∀ y ∈ yss, y.length = P.cellsOf e := fun y hy => by
        obtain ⟨j, hj⟩ := List.getElem?_of_mem hy
        exact hlen j y hj
      have hsum : ∀ l : List (List PV), (∀ y ∈ l, y.length = P.cellsOf e) → (l.map List.length).sum = l.length * P.cellsOf e := by
        intro l
        induction l with
        | nil => intro _; simp
        | cons y l ihl => intro hh; simp [hh y (by simp), ihl (fun z hz => hh z (by simp [hz])), Nat.succ_mul, Nat.add_comm]
      have hoff : ∀ j, j ≤ m → ((yss.take j).map List.length).sum = j * P.cellsOf e := by
        intro j hj
        rw [hsum _ (fun y hy => hall y (List.mem_of_mem_take hy)), List.length_take, hyl, Nat.min_eq_left hj]
      refine ⟨yss.flatten, ⟨?_, fun j hj => ?_⟩, ?_, fun i p v h1 h2 => ?_⟩
      · rw [List.length_flatten, hsum _ hall, hyl, ksz]
      · have hyj := List.getElem?_eq_getElem (l := yss) (i := j) (by omega)
        have := Jb3 yss j _ hyj
        rw [hoff j (by omega), hlen j _ hyj] at this
        rw [this]
        exact (hys j _ hyj).1
      · rw [List.length_flatten, hsum _ hall, hcl, hyl, ksz]
      · have key : ∀ (l : List (List PV)) (i : Nat) p, l.flatten[i]? = some p → ∃ j ys k, l[j]? = some ys ∧ ys[k]? = some p ∧ i = ((l.take j).map List.length).sum + k := by
          intro l
          induction l with
          | nil => intro i p h; simp at h
          | cons y l ihl =>
            intro i p h
            rw [List.flatten_cons] at h
            rcases Nat.lt_or_ge i y.length with hlt | hge
            · rw [List.getElem?_append_left hlt] at h
              exact ⟨0, y, i, rfl, h, by simp⟩
            · rw [List.getElem?_append_right hge] at h
              obtain ⟨j, ys, k, a1, a2, a3⟩ := ihl _ _ h
              exact ⟨j + 1, ys, k, by simpa using a1, a2, by simp only [List.take_succ_cons, List.map_cons, List.sum_cons]; omega⟩
        obtain ⟨j, ys, k, a1, a2, a3⟩ := key _ _ _ h1
        have hj : j < m := by have := (List.getElem?_eq_some_iff.1 a1).1; omega
        have q := (hys j ys a1).2
        refine q.2 k p v a2 ?_
        have hk : k < P.cellsOf e := by have := (List.getElem?_eq_some_iff.1 a2).1; rw [hlen j ys a1] at this; exact this
        rw [List.getElem?_take_of_lt hk, List.getElem?_drop, ← hoff j (by omega), ← a3]
        exact h2
    · cases hp
end
end Go.Am
end
section
namespace Go.Am
open Go.ChangeShapes Go.WideShapes Go.ChangeAt Go.RowKit
def gh0 (w : World) : Gh := ⟨fun _ => none, fun r _ => r < w.heap.size⟩
theorem JeS (g : Gh) (w : World) (b r o : Nat) : ¬ Wr1 ⟨[], g, w⟩ b r o := by
  unfold Wr1; simp
theorem JpS (w : World) : Inv ⟨[], gh0 w, w⟩ where
  box := fun b cs h => by simp at h
  arr := fun b wm esz rows h => by simp at h
  apart := fun b1 b2 r o h => absurd h (JeS _ _ _ _ _)
  const := fun r o h => ⟨h, fun b => JeS _ _ _ _ _⟩
def J8Y (w w' : World) : Prop := J82 (fun _ _ => False) w w'
theorem J8Y.kept {w w' : World} (h : J8Y w w') (may : MemPlace → Prop) : w.keptBut w' may := by
  obtain ⟨h1, h2, h3, h4, h5⟩ := h
  refine ⟨h4, h5, fun i hi => ?_⟩
  have hg := Array.getElem?_eq_getElem hi
  cases hw : w.heap[i]? with
  | none => rw [hg] at hw; cases hw
  | some x =>
    cases x with
    | cells c e fz =>
      obtain ⟨c', q1, q2, q3⟩ := h2 i c e fz hw
      rw [q1]
      exact ⟨rfl, rfl, q2, fun j _ => q3 j (fun hf => hf)⟩
    | map es clock =>
      have := h3 i _ hw (fun c e fz he => by cases he)
      rw [this]
      exact .inr ⟨rfl, rfl⟩
    | _ =>
      have := h3 i _ hw (fun c e fz he => by cases he)
      rw [this]
theorem J8Y.same {w w' : World} (h : J8Y w w') {p : MemPlace} (hp : p.block < w.heap.size) : w.sameAt w' p := by
  obtain ⟨h1, h2, h3, h4, h5⟩ := h
  cases p with
  | cell b off =>
    have hb : b < w.heap.size := hp
    have hg := Array.getElem?_eq_getElem hb
    show w'.cell? ⟨b, off, none⟩ = w.cell? ⟨b, off, none⟩
    rw [J4g, J4g]
    unfold J04
    cases hw : w.heap[b]? with
    | none => rw [hg] at hw; cases hw
    | some x =>
      cases x with
      | cells c e fz =>
        obtain ⟨c', q1, q2, q3⟩ := h2 b c e fz hw
        rw [q1]
        exact q3 off (fun hf => hf)
      | _ =>
        have := h3 b _ hw (fun c e fz he => by cases he)
        rw [this]
  | map b =>
    have hb : b < w.heap.size := hp
    have hg := Array.getElem?_eq_getElem hb
    show w'.heap[b]? = w.heap[b]?
    cases hw : w.heap[b]? with
    | none => rw [hg] at hw; cases hw
    | some x =>
      cases x with
      | cells c e fz =>
        obtain ⟨c', q1, q2, q3⟩ := h2 b c e fz hw
        rw [q1]
        have : c' = c := by
          apply Array.ext_getElem?
          intro i
          exact q3 i (fun hf => hf)
        rw [this]
      | _ => exact h3 b _ hw (fun c e fz he => by cases he)
theorem J8Y.frozen {w w' : World} (h : J8Y w w') {a : Addr} (hp : a.block < w.heap.size) : w'.frozen? a = w.frozen? a := by
  obtain ⟨h1, h2, h3, h4, h5⟩ := h
  have hg := Array.getElem?_eq_getElem hp
  unfold World.frozen?
  cases hw : w.heap[a.block]? with
  | none => rw [hg] at hw; cases hw
  | some x =>
    cases x with
    | cells c e fz =>
      obtain ⟨c', q1, q2, q3⟩ := h2 a.block c e fz hw
      rw [q1]
    | _ =>
      have := h3 a.block _ hw (fun c e fz he => by cases he)
      rw [this]
theorem JjG {P : Program} {F : Orc} (hF : J3R P F) {f : FuncId} {args : List AV} {vals : Array Value} {w : World} (hl : args.length = vals.size)
    (hr : ∀ (i : Nat) x v, args[i]? = some x → vals[i]? = some v → Jn ⟨[], gh0 w, w⟩ x v) (h : F f args [] = some (.p (.b true), [])) :
    Calls P f vals w fun e w' => e = .returned (.bool true) ∧ J8Y w w' := by
  refine ((hF _ _ _ _ h).2 (gh0 w) w vals (JpS w) hl hr).mono fun e w' ⟨v, g', he, _, ht, hrel⟩ => ?_
  cases hrel with
  | p _ _ hrel =>
    cases hrel with
    | b =>
      refine ⟨he, ?_⟩
      obtain ⟨k1, k2, k3, k4⟩ := ht.keep
      refine ⟨k1, fun r c e fz hr => ?_, k3, k4⟩
      obtain ⟨c', q1, q2, q3⟩ := k2 r c e fz hr
      exact ⟨c', q1, q2, fun o _ => q3 o (fun ⟨b, hb⟩ => JeS _ _ _ _ _ hb)⟩
section
variable {H : Type} {enc : TypeId × Value → H} {P : Program}
theorem Jay (hl : laidOutB P = true) (hm : mapsRowed P = true) (hsz : ∀ {t e : TypeId}, t < P.types.size → P.underlying t = some (.slice e) → 0 < P.cellsOf e) {W W' : World} {sp : Nat → Bool} :
    ∀ {ts : List TypeId} {vs : List Value} {ds : List (DataW H)} {ps : List MemPlace}, (∀ t ∈ ts, t < P.types.size) → DataW.TrodAll enc P W 0 (fun _ => true) true ts vs ds ps →
      (∀ p ∈ ps, W.sameAt W' p) → (∀ p ∈ ps, sp p.block = true) → DataW.TrodAll enc P W' 0 sp true ts vs ds ps
  | [], [], [], _, _, h, _, _ => h
  | [], _ :: _, _, _, _, h, _, _ => h.elim
  | [], [], _ :: _, _, _, h, _, _ => h.elim
  | _ :: _, [], _, _, _, h, _, _ => h.elim
  | _ :: _, _ :: _, [], _, _, h, _, _ => h.elim
  | t :: ts, v :: vs, d :: ds, _, hT, ⟨p, q, ⟨n, h1⟩, h2, rfl⟩, hs, hp => by
    refine ⟨p, q, ⟨n, DataW.trod_stays (kids_rows hl hm) hsz (fun h => by cases h) (hT t (by simp)) h1 (fun x hx => hs x (by simp [hx])) (fun x hx => hp x (by simp [hx]))⟩, ?_, rfl⟩
    exact Jay hl hm hsz (fun x hx => hT x (by simp [hx])) h2 (fun x hx => hs x (by simp [hx])) (fun x hx => hp x (by simp [hx]))
def J7M (P : Program) : Bool := (List.range P.types.size).all fun t => match P.underlying t with
  | some (.slice e) => decide (0 < P.cellsOf e)
  | _ => true
theorem Jh5 (h : J7M P = true) {t e : TypeId} (ht : t < P.types.size) (he : P.underlying t = some (.slice e)) : 0 < P.cellsOf e := by
  unfold J7M at h
  rw [List.all_eq_true] at h
  have := h t (by simpa using ht)
  rw [he] at this
  simpa using this
theorem Jla {fn : Func} {s : ChangeSpec} {tb : TypeId} (hl : laidOutB P = true) (hm : mapsRowed P = true) (hsz : J7M P = true) (hpar : ∀ t ∈ fn.params.toList, t < P.types.size)
    (hres : fn.resultTypes = #[tb]) (htb : P.underlying tb = some .bool) (hvars : s.vars = []) {apart fresh handsOn again : Bool} {W W' : World} {args : Array Value} {ds gs : List (DataW H)} {before : List MemPlace}
    (hfn : gs = [] → s.fn H (ds ++ gs) = { results := [.lit (.bool true)], args := ds })
    (hW : DataW.Whole enc P fn.params.toList s.vars apart W args.toList ds gs before) (hst : J8Y W W') : s.post enc P fn apart fresh handsOn again W args (.bool true) W' := by
  have hW0 := hW
  have hlt := hW.lt
  obtain ⟨p, q, h1, h2, rfl, hz, hn⟩ := hW
  rw [hvars] at h2
  obtain ⟨rfl, rfl⟩ := trodVars_none h2
  rw [List.append_nil] at hW0 hlt hz hn
  have hf := hfn rfl
  have hargs : ∀ sp : Nat → Bool, (∀ x ∈ p, sp x.block = true) → DataW.TrodAll enc P W' 0 sp true fn.params.toList args.toList ds p := fun sp hp =>
    Jay hl hm (fun ht he => Jh5 hsz ht he) hpar h1 (fun x hx => hst.same (hlt x hx)) hp
  have hr : ∀ (b : Nat) (sp : Nat → Bool) (hd : Bool), DataW.TrodAll enc P W' b sp hd fn.resultTypes.toList ((Value.bool true).resultList fn.resultTypes.size) [.lit (.bool true)] [] := by
    intro b sp hd
    rw [hres]
    exact trodAll_cons_mk (shut_bool htb _) trodAll_mk0
  refine ⟨ds, [], p, [], p, [], hW0, ?_, ?_, ?_, hst.kept _, fun _ => ⟨?_, ?_⟩⟩
  · rw [hf]; exact hr _ _ _
  · rw [hf]; exact hargs _ (fun x hx => by simpa using hlt x hx)
  · rw [hf, hvars]; rfl
  · exact ok_one hres rfl (okWide_bool_mk htb _)
  · refine ⟨_, [], [] ++ p, ⟨[] ++ p, [], trodAll_append (hargs _ (fun _ _ => rfl)) (hr _ _ _), by rw [hvars]; rfl, by simp, fun b off hp => ?_, fun ha => by simpa using hn ha⟩, fun x hx _ => by simpa using hx⟩
    have hp' : MemPlace.cell b off ∈ p := by simpa using hp
    rw [hst.frozen (a := ⟨b, off, none⟩) (hlt _ hp')]
    exact hz b off hp'
def Jj2 (P : Program) (t : TypeId) (pvs : List PV) : AV := match P.underlying t with
  | some (.struct _) => .data pvs
  | some (.array _ _) => .data pvs
  | _ => match pvs with
    | [c] => .p c
    | _ => .unk
theorem JnL (hl : laidOutB P = true) (hm : mapsRowed P = true) {n : Nat} {t : TypeId} {w : World} {r : Reach} {base : Nat} {sp : Nat → Bool} {v : Value} {d : DataW H} {ps : List MemPlace} (hp : J7k P n t = true)
    (hv : Value.okWide P w r base t v) (h : DataW.Trod enc P w 0 sp true t v d ps) : ∃ pvs, J7q P n t pvs ∧ Jn ⟨[], gh0 w, w⟩ (Jj2 P t pvs) v := by
  obtain ⟨fuel, h⟩ := h
  obtain ⟨pvs, q1, q2, q3⟩ := Jng hl hm n t _ _ fuel hp h
  refine ⟨pvs, q1, ?_⟩
  cases n with
  | zero => simp [J7k] at hp
  | succ n =>
    unfold J7k at hp
    unfold Value.okWide at hv
    unfold Jj2
    have one : ∀ {c : PV}, pvs = [c] → (∀ cs, v ≠ .agg cs) → Jn ⟨[], gh0 w, w⟩ (.p c) v := by
      intro c hc hne
      subst hc
      refine .p _ _ (q3 0 c v rfl ?_)
      cases v <;> first | rfl | exact absurd rfl (hne _)
    unfold J7q at q1
    split at hp
    · rename_i ht
      rw [ht] at q1 hv ⊢
      obtain ⟨b, rfl⟩ := q1
      exact one rfl (fun cs he => by subst he; simp [Cell.okWide, Cell.ok, ht] at hv)
    · rename_i k ht
      rw [ht] at q1 hv ⊢
      obtain ⟨z, rfl, _⟩ := q1
      exact one rfl (fun cs he => by subst he; simp [Cell.okWide, Cell.ok, ht] at hv)
    · rename_i ht
      rw [ht] at q1 hv ⊢
      obtain ⟨z, rfl, _⟩ := q1
      exact one rfl (fun cs he => by subst he; simp [Cell.okWide, Cell.ok, ht] at hv)
    · rename_i e ht
      rw [ht] at q1 hv ⊢
      obtain ⟨rows, rfl, _⟩ := q1
      exact one rfl (fun cs he => by subst he; simp [Cell.okWide, Cell.ok, ht] at hv)
    · rename_i fs ht
      rw [ht] at hv ⊢
      obtain ⟨cs, rfl, _⟩ := hv
      exact .data _ _ (by simpa [Value.cells] using q2) (fun i x v h1 h2 => q3 i x v h1 (by simpa [Value.cells] using h2))
    · rename_i m e ht
      rw [ht] at hv ⊢
      obtain ⟨cs, rfl, _⟩ := hv
      exact .data _ _ (by simpa [Value.cells] using q2) (fun i x v h1 h2 => q3 i x v h1 (by simpa [Value.cells] using h2))
    · cases hp
end
end Go.Am
end
