/-
  Parts of a proof: YteiakclfpfmigaaPidx, YteiakclfpfmigaaPidx2, YteiakclfpfmigaaLoops, YteiakclfpfmigaaTot, YteiakclfpfmigaaPool1, YteiakclfpfmigaaPool2, YteiakclfpfmigaaPool3, AmIn, AmLaw.
-/
import Derived.ChangeArms
import Derived.OpenShut
import Derived.ChangeBears
import Derived.ChangeStays
import Derived.Handed
import Derived.RowKit3
import Derived.WalkKit
import Derived.ProofKit
import Derived.Test.YteiakclfpfmigaaM4
import Derived.Test.YteiakclfpfmigaaM8
set_option linter.unusedSimpArgs false
set_option linter.unusedVariables false
section
namespace Go.Am
set_option maxRecDepth 16000
theorem J33 {α : Type} {l : List α} {k : Nat} (h : k < l.length) : idx l (k : Int) = some l[k] := by
  rw [Jk8, List.getElem?_eq_getElem h]
theorem Jhz {α : Type} {l : List α} {j : Nat} (h : j < l.length) : l.take (j + 1) = l.take j ++ [l[j]] := by
  rw [List.take_add_one, List.getElem?_eq_getElem h]; rfl
end Go.Am
end
section
namespace Go.Am
set_option maxRecDepth 16000
end Go.Am
end
section
namespace Go.Am
set_option maxRecDepth 16000
theorem JhB {α ρ : Type} {f : Int → Option (Int ⊕ ρ)} {l : List α} (p : α → Bool) (hit : Nat → ρ) (out : ρ) (hl : l.length < 1000000)
    (h1 : ∀ (k : Nat) (h : k < l.length), f (k : Int) = some (if p l[k] = true then .inr (hit k) else .inl ((k + 1 : Nat) : Int))) (h2 : f (l.length : Int) = some (.inr out)) :
    JO f 0 = some (match l.findIdx? p with
      | some k => hit k
      | none => out) := by
  have key : ∀ (n k : Nat), k + n = l.length → JO f (k : Int) = some (match (l.drop k).findIdx? p with
      | some j => hit (k + j)
      | none => out) := by
    intro n
    induction n with
    | zero =>
      intro k hk
      obtain rfl : k = l.length := by omega
      rw [J2v h2]
      simp
    | succ n ih =>
      intro k hk
      have hlt : k < l.length := by omega
      have e := h1 k hlt
      rw [List.drop_eq_getElem_cons hlt, List.findIdx?_cons]
      by_cases hp : p l[k] = true
      · rw [if_pos hp] at e
        rw [J2v e, if_pos hp]
        rfl
      · rw [if_neg hp] at e
        rw [J4i e, ih (k + 1) (by omega), if_neg hp]
        cases (l.drop (k + 1)).findIdx? p with
        | none => rfl
        | some j => simp only [Option.map_some]; congr 2; omega
  have := key l.length 0 (by omega)
  simpa using this
theorem JiD {ρ : Type} (c : Bool) (a b : ρ) : (if c = true then some a else some b) = some (if c = true then a else b) := by cases c <;> rfl
end Go.Am
end
section
namespace Go.Am
set_option maxRecDepth 16000
def Tot {ρ : Type} (o : Option ρ) (Q : ρ → Prop) : Prop := ∃ r, o = some r ∧ Q r
theorem Tot.bind {α ρ : Type} {o : Option α} {f : α → Option ρ} {Q : α → Prop} {R : ρ → Prop} (h : Tot o Q) (h2 : ∀ r, Q r → Tot (f r) R) : Tot (o.bind f) R := by
  obtain ⟨r, rfl, hq⟩ := h
  exact h2 r hq
theorem Tot.some {ρ : Type} {r : ρ} {Q : ρ → Prop} (h : Q r) : Tot (some r) Q := ⟨r, rfl, h⟩
theorem Tot.mono {ρ : Type} {o : Option ρ} {Q R : ρ → Prop} (h : Tot o Q) (h2 : ∀ r, Q r → R r) : Tot o R := by
  obtain ⟨r, e, hq⟩ := h
  exact ⟨r, e, h2 r hq⟩
theorem Tot.map {α ρ : Type} {o : Option α} {f : α → ρ} {Q : α → Prop} {R : ρ → Prop} (h : Tot o Q) (h2 : ∀ r, Q r → R (f r)) : Tot (Option.map f o) R := by
  obtain ⟨r, rfl, hq⟩ := h
  exact ⟨f r, rfl, h2 r hq⟩
section
end
end Go.Am
end
section
namespace Go.Am
set_option maxRecDepth 16000
set_option maxHeartbeats 2000000
theorem JeG {ρ : Type} {f : Int → Option (Int ⊕ ρ)} {n : Nat} (q : Nat → Prop) (bad out : ρ) (hn : n < 1000000)
    (h1 : ∀ (k : Nat), k < n → (q k ∧ f (k : Int) = some (.inl ((k + 1 : Nat) : Int))) ∨ (¬ q k ∧ f (k : Int) = some (.inr bad))) (h2 : f (n : Int) = some (.inr out)) :
    (JO f 0 = some out ∧ ∀ k, k < n → q k) ∨ (JO f 0 = some bad ∧ ¬ ∀ k, k < n → q k) := by
  have key : ∀ (m k : Nat), k + m = n → (∀ j, j < k → q j) → (JO f (k : Int) = some out ∧ ∀ k, k < n → q k) ∨ (JO f (k : Int) = some bad ∧ ¬ ∀ k, k < n → q k) := by
    intro m
    induction m with
    | zero =>
      intro k hk hq
      obtain rfl : k = n := by omega
      exact .inl ⟨J2v h2, hq⟩
    | succ m ih =>
      intro k hk hq
      rcases h1 k (by omega) with ⟨a, e⟩ | ⟨a, e⟩
      · rw [J4i e]
        exact ih (k + 1) (by omega) fun j hj => by
          rcases Nat.lt_succ_iff_lt_or_eq.1 hj with h | rfl
          · exact hq j h
          · exact a
      · exact .inr ⟨J2v e, fun h => a (h k (by omega))⟩
  exact key n 0 (by omega) fun j hj => absurd hj (by omega)
def J4T (l : List T_api_Frame) (id : Int) : Option Nat := l.findIdx? fun f => f.Page.ID == id
def JgE (o : Option Nat) : Int := match o with
  | some k => (k : Int)
  | none => -1
theorem J9p {p : T_api_Pool} (hl : p.Frames.length < 1000000) (id : Int) : J1U p id = some (JgE (J4T p.Frames id)) := by
  have e : JE p.Frames id = _ := JhB (f := fun s => Jt p.Frames (p.Frames.length : Int) id s) (l := p.Frames) (fun f => f.Page.ID == id) (fun k => (k : Int)) (-1) hl
    (fun k hk => by
      have e1 : ((k : Nat) : Int) < (p.Frames.length : Int) := by omega
      simp only [Jt, e1, decide_true, if_true, J33 hk, Option.bind_some, J3Z, JiD, J1X (show k < 1000000 by omega)])
    (by
      have e1 : ¬ ((p.Frames.length : Nat) : Int) < (p.Frames.length : Int) := by omega
      simp only [Jt, e1, decide_false, Bool.false_eq_true, if_false, JR, Option.map_some])
  simp only [J1U, e, Option.bind_some, J4T, JgE]
  all_goals (cases p.Frames.findIdx? (fun f => f.Page.ID == id) <;> rfl)
structure JfC (f : T_api_Frame) : Prop where
  page : J7Z f.Page
  d1 : f.Dirty = true → 1 ≤ f.Rec ∧ f.Rec ≤ f.Page.LSN
  d0 : f.Dirty = false → f.Rec = 0
structure J7S (p : T_api_Pool) : Prop where
  s1 : 1 ≤ p.Size
  s2 : p.Size ≤ 64
  n : ((p.Frames.length : Nat) : Int) ≤ p.Size
  h0 : 0 ≤ p.Hand
  h1 : p.Hand < Jb2 1 ((p.Frames.length : Nat) : Int)
  fr : ∀ (k : Nat) (h : k < p.Frames.length), JfC p.Frames[k]
  uq : ∀ (i j : Nat) (hi : i < p.Frames.length) (hj : j < p.Frames.length), p.Frames[i].Page.ID = p.Frames[j].Page.ID → i = j
theorem JfZ {l : List T_api_Frame} {id : Int} {k : Nat} (h : J4T l id = some k) : ∃ hk : k < l.length, l[k].Page.ID = id := by
  obtain ⟨hk, h3, _⟩ := List.findIdx?_eq_some_iff_getElem.1 h
  exact ⟨hk, by simpa using h3⟩
theorem JfQ {l : List T_api_Frame} {id : Int} (h : J4T l id = none) {k : Nat} (hk : k < l.length) : l[k].Page.ID ≠ id := by
  unfold J4T at h
  rw [List.findIdx?_eq_none_iff] at h
  simpa using h _ (List.getElem_mem hk)
theorem Jes {l : List T_api_Frame} {k : Nat} (hk : k < l.length) : ∃ j, J4T l l[k].Page.ID = some j ∧ j ≤ k := by
  cases h : J4T l l[k].Page.ID with
  | none => exact absurd rfl (JfQ h hk)
  | some j =>
    refine ⟨j, rfl, ?_⟩
    obtain ⟨hj, h3, h4⟩ := List.findIdx?_eq_some_iff_getElem.1 h
    rcases Nat.lt_or_ge k j with hlt | hge
    · exact absurd (h4 k hlt) (by simp)
    · exact hge
theorem Jen {l : List T_api_Frame} (uq : ∀ (i j : Nat) (hi : i < l.length) (hj : j < l.length), l[i].Page.ID = l[j].Page.ID → i = j) {k : Nat} (hk : k < l.length) : J4T l l[k].Page.ID = some k := by
  obtain ⟨j, hj, _⟩ := Jes hk
  obtain ⟨hj', e⟩ := JfZ hj
  rw [hj, uq j k hj' hk e]
def Rq (l : List T_api_Frame) (k : Nat) : Prop := ∃ h : k < l.length, JfC l[k] ∧ J4T l l[k].Page.ID = some k
theorem Jm8 {l : List T_api_Frame} (h : ∀ k, k < l.length → Rq l k) : ∀ (i j : Nat) (hi : i < l.length) (hj : j < l.length), l[i].Page.ID = l[j].Page.ID → i = j := by
  intro i j hi hj e
  obtain ⟨_, _, h1⟩ := h i hi
  obtain ⟨_, _, h2⟩ := h j hj
  rw [e, h2] at h1
  injection h1 with h1
  exact h1.symm
theorem Jge {p : T_api_Pool} (s1 : 1 ≤ p.Size) (s2 : p.Size ≤ 64) (n : ((p.Frames.length : Nat) : Int) ≤ p.Size) (h0 : 0 ≤ p.Hand) (h1 : p.Hand < Jb2 1 ((p.Frames.length : Nat) : Int)) :
    (∀ k, k < p.Frames.length → Rq p.Frames k) ↔ J7S p := by
  constructor
  · intro h
    exact ⟨s1, s2, n, h0, h1, fun k hk => let ⟨_, a, _⟩ := h k hk; a, Jm8 h⟩
  · intro h k hk
    exact ⟨hk, h.fr k hk, Jen h.uq hk⟩
theorem Jc9 (p : T_api_Pool) : ∃ b, J1E p = some b ∧ (b = true ↔ J7S p) := by
  unfold J1E
  by_cases c1 : p.Size < 1
  · exact ⟨false, by simp only [c1, decide_true, if_true], by simp; intro h; have := h.s1; omega⟩
  by_cases c2 : p.Size > 64
  · exact ⟨false, by simp only [c1, c2, decide_true, decide_false, Bool.false_eq_true, if_true, if_false], by simp; intro h; have := h.s2; omega⟩
  by_cases c3 : ((p.Frames.length : Nat) : Int) > p.Size
  · exact ⟨false, by simp only [c1, c2, c3, decide_true, decide_false, Bool.false_eq_true, if_true, if_false], by simp; intro h; have := h.n; omega⟩
  by_cases c4 : p.Hand < 0
  · exact ⟨false, by simp only [c1, c2, c3, c4, decide_true, decide_false, Bool.false_eq_true, if_true, if_false], by simp; intro h; have := h.h0; omega⟩
  by_cases c5 : p.Hand ≥ Jb2 1 ((p.Frames.length : Nat) : Int)
  · exact ⟨false, by simp only [c1, c2, c3, c4, c5, decide_true, decide_false, Bool.false_eq_true, if_true, if_false], by simp; intro h; have := h.h1; omega⟩
  simp only [c1, c2, c3, c4, c5, decide_false, Bool.false_eq_true, if_false]
  have hiff := Jge (p := p) (by omega) (by omega) (by omega) (by omega) (by omega)
  have hlt : p.Frames.length < 1000000 := by omega
  have key := JeG (f := fun s => J2t p.Frames (p.Frames.length : Int) p s) (n := p.Frames.length) (Rq p.Frames) false true hlt
    (fun k hk => by
      have e1 : ((k : Nat) : Int) < (p.Frames.length : Int) := by omega
      obtain ⟨b, hb, hbi⟩ := JgV p.Frames[k].Page
      simp only [J2t, e1, decide_true, if_true, J33 hk, Option.bind_some, hb, J9p hlt, J1X (show k < 1000000 by omega)]
      obtain ⟨j, hj, _⟩ := Jes hk
      simp only [hj, JgE]
      cases hb0 : b with
      | false =>
        right
        refine ⟨fun ⟨_, a, _⟩ => ?_, by simp only [Bool.false_eq_true, if_false]⟩
        have := hbi.2 a.page
        rw [hb0] at this; cases this
      | true =>
        have hpg := hbi.1 hb0
        simp only [if_true]
        by_cases hjk : j = k
        · subst hjk
          have d : (((j : Nat) : Int) != ((j : Nat) : Int)) = false := by simp
          simp only [d, Bool.false_eq_true, if_false]
          cases hd : p.Frames[j].Dirty with
          | true =>
            simp only [if_true]
            by_cases r1 : p.Frames[j].Rec < 1
            · exact .inr ⟨fun ⟨_, a, _⟩ => by have := (a.d1 hd).1; omega, by simp only [r1, decide_true, if_true]⟩
            · by_cases r2 : p.Frames[j].Rec > p.Frames[j].Page.LSN
              · exact .inr ⟨fun ⟨_, a, _⟩ => by have := (a.d1 hd).2; omega, by simp only [r1, r2, decide_true, decide_false, Bool.false_eq_true, if_true, if_false]⟩
              · exact .inl ⟨⟨hk, ⟨hpg, fun _ => ⟨by omega, by omega⟩, fun h => by rw [hd] at h; cases h⟩, hj⟩, by simp only [r1, r2, decide_false, Bool.false_eq_true, if_false]⟩
          | false =>
            simp only [Bool.false_eq_true, if_false]
            by_cases r1 : p.Frames[j].Rec = 0
            · have d2 : (p.Frames[j].Rec != 0) = false := by simpa using r1
              exact .inl ⟨⟨hk, ⟨hpg, (fun h => by rw [hd] at h; cases h), fun _ => r1⟩, hj⟩, by simp only [d2, Bool.false_eq_true, if_false]⟩
            · have d2 : (p.Frames[j].Rec != 0) = true := by simpa using r1
              exact .inr ⟨fun ⟨_, a, _⟩ => r1 (a.d0 hd), by simp only [d2, if_true]⟩
        · have d : (((j : Nat) : Int) != ((k : Nat) : Int)) = true := by simp; omega
          exact .inr ⟨fun ⟨_, _, a⟩ => by rw [hj] at a; injection a with a; exact hjk a, by simp only [d, if_true]⟩)
    (by
      have e1 : ¬ ((p.Frames.length : Nat) : Int) < (p.Frames.length : Int) := by omega
      simp only [J2t, e1, decide_false, Bool.false_eq_true, if_false, J55, Option.map_some])
  rcases key with ⟨e, h⟩ | ⟨e, h⟩
  · exact ⟨true, e, by simpa using hiff.1 h⟩
  · exact ⟨false, e, by simpa using fun h2 => h (hiff.2 h2)⟩
theorem J6F {p : T_api_Pool} (h : J7S p) : J1E p = some true := by
  obtain ⟨b, e, hb⟩ := Jc9 p
  rw [e, hb.2 h]
theorem J76 {l : List T_api_Frame} (h : l.length ≤ 1000) : J05 l = some l := by
  have e : (2 * l.length + 512) * 424 ≤ 281474976710656 := by omega
  unfold J05
  rw [if_pos e]
theorem J7S.len {p : T_api_Pool} (h : J7S p) : p.Frames.length ≤ 64 := by
  have := h.n; have := h.s2; omega
theorem Jhm {l : List T_api_Frame} (h : l.length ≤ 1000) {k : Nat} (hk : k < l.length) (f : T_api_Frame) : J0p l (k : Int) f = some (l.set k f) := by
  simp only [J0p, J76 h, Option.bind_some, J33 hk, Int.toNat_natCast]
end Go.Am
end
section
namespace Go.Am
set_option maxRecDepth 16000
set_option maxHeartbeats 2000000
abbrev J6N : Vector Je 16 := Vector.replicate 16 (⟨false, []⟩ : Je)
def fr0 (b i : Nat) (u : Bool) : T_api_Frame := ⟨⟨((b + i : Nat) : Int), 0, J6N⟩, false, 0, u⟩
def frs (b : Nat) (l : List Bool) : List T_api_Frame := l.mapIdx fun i u => fr0 b i u
theorem J3l (b : Nat) (l : List Bool) : (frs b l).length = l.length := by simp [frs]
theorem J3U {b : Nat} {l : List Bool} {k : Nat} (h : k < l.length) : (frs b l)[k]'(by rw [J3l]; exact h) = fr0 b k l[k] := by simp [frs]
theorem JfF (b : Nat) (l : List Bool) (k : Nat) (u : Bool) : (frs b l).set k (fr0 b k u) = frs b (l.set k u) := by
  apply List.ext_getElem
  · simp [frs]
  · intro i h1 h2
    rw [List.getElem_set]
    simp only [frs, List.getElem_mapIdx, List.getElem_set]
    split
    · rename_i e; subst e; simp
    · simp [*]
theorem Jjk (b : Nat) (l : List Bool) (u : Bool) : frs b l ++ [fr0 b l.length u] = frs b (l ++ [u]) := by simp [frs, List.mapIdx_append]
def plz (b n : Nat) (l : List Bool) (h : Nat) : T_api_Pool := ⟨(n : Int), frs b l, (h : Int)⟩
theorem JbB {b : Nat} {n : Nat} {l : List Bool} {h : Nat} (h1 : 1 ≤ n) (h2 : b + n ≤ 64) (hl : l.length ≤ n) (hh : h < max 1 l.length) : J7S (plz b n l h) := by
  have e := J3l b l
  refine ⟨by show (1 : Int) ≤ n; omega, by show (n : Int) ≤ 64; omega, by show (((frs b l).length : Nat) : Int) ≤ n; omega, by show (0 : Int) ≤ h; omega, ?_, fun k hk => ?_, fun i j hi hj he => ?_⟩
  · show (h : Int) < Jb2 1 (((frs b l).length : Nat) : Int)
    unfold Jb2
    split <;> omega
  · have hk' : k < l.length := by rw [← e]; exact hk
    have : (plz b n l h).Frames[k] = fr0 b k l[k] := J3U hk'
    rw [this]
    exact ⟨Jek (by show (0 : Int) ≤ ((b + k : Nat) : Int); omega) (by show ((b + k : Nat) : Int) < 64; omega) (by omega) (by omega), (fun h => by cases h), fun _ => rfl⟩
  · have hi' : i < l.length := by rw [← e]; exact hi
    have hj' : j < l.length := by rw [← e]; exact hj
    have ei : (plz b n l h).Frames[i] = fr0 b i l[i] := J3U hi'
    have ej : (plz b n l h).Frames[j] = fr0 b j l[j] := J3U hj'
    rw [ei, ej] at he
    have he : ((b + i : Nat) : Int) = ((b + j : Nat) : Int) := he
    omega
theorem Jew {b : Nat} {n : Nat} {l : List Bool} {h : Nat} {k : Nat} (hl : l.length ≤ 64) : J1U (plz b n l h) ((b + k : Nat) : Int) = some (if k < l.length then (k : Int) else -1) := by
  have e := J3l b l
  rw [J9p (by show (frs b l).length < _; omega)]
  by_cases hk : k < l.length
  · have h3 := Jen (l := frs b l) (fun i j hi hj he => by
      rw [J3U (by omega), J3U (by omega)] at he
      have he : ((b + i : Nat) : Int) = ((b + j : Nat) : Int) := he
      omega) (k := k) (by omega)
    rw [J3U hk] at h3
    have h3 : J4T (plz b n l h).Frames ((b + k : Nat) : Int) = some k := h3
    rw [h3, if_pos hk]; rfl
  · have h3 : J4T (frs b l) ((b + k : Nat) : Int) = none := by
      unfold J4T
      rw [List.findIdx?_eq_none_iff]
      intro x hx
      obtain ⟨i, hi, rfl⟩ := List.getElem_of_mem hx
      rw [J3U (by omega)]
      have : ((b + i : Nat) : Int) ≠ ((b + k : Nat) : Int) := by omega
      simpa [fr0] using this
    have h3 : J4T (plz b n l h).Frames ((b + k : Nat) : Int) = none := h3
    rw [h3, if_neg hk]; rfl
theorem JhC {l : List T_api_Frame} {f : T_api_Frame} (h : l.length ≤ 1000) : Jav 424 l [f] = some (l ++ [f]) := by
  have e : 0 < [f].length ∧ J4Y (l.length + [f].length) 424 = true := by
    refine ⟨by simp, ?_⟩
    simp only [J4Y, List.length_cons, List.length_nil]
    simp; omega
  unfold Jav
  rw [if_pos e]
theorem Jc0 {b : Nat} {n : Nat} {l : List Bool} (h1 : 1 ≤ n) (h2 : b + n ≤ 64) (hl : l.length < n) : J21 (plz b n l 0) ⟨((b + l.length : Nat) : Int), 0, J6N⟩ = some (plz b n (l ++ [true]) 0, 0) := by
  have e := J3l b l
  have ok := JbB (b := b) (n := n) (l := l) (h := 0) h1 h2 (by omega) (by omega)
  have a1 := Jhp (p := ⟨((b + l.length : Nat) : Int), 0, J6N⟩) (Jek (by omega) (by omega) (by omega) (by omega))
  have a2 := Jew (b := b) (n := n) (l := l) (h := 0) (k := l.length) (by omega)
  rw [if_neg (by omega)] at a2
  have d0 : ((0 : Int) != 0) = false := rfl
  have d1 : ¬ ((-1 : Int) ≥ 0) := by omega
  have d2 : ((((plz b n l 0).Frames.length : Nat) : Int) == (plz b n l 0).Size) = false := by
    have : (((frs b l).length : Nat) : Int) ≠ (n : Int) := by omega
    simpa [plz] using this
  have a3 : Jav 424 (plz b n l 0).Frames [fr0 b l.length true] = some (frs b l ++ [fr0 b l.length true]) := JhC (by show (frs b l).length ≤ 1000; omega)
  have a3 : Jav 424 (plz b n l 0).Frames ([(⟨⟨((b + l.length : Nat) : Int), 0, J6N⟩, false, 0, true⟩ : T_api_Frame)] : List T_api_Frame) = some (frs b (l ++ [true])) := by rw [← Jjk]; exact a3
  simp only [J21, J6F ok, a1, a2, d0, d1, d2, decide_false, Option.bind_some, if_true, Bool.false_eq_true, if_false, J0a, a3]
  rfl
def clr (l : List Bool) (k : Nat) : List Bool := List.replicate k false ++ l.drop k
theorem J7K {l : List Bool} {k : Nat} (h : k ≤ l.length) : (clr l k).length = l.length := by simp [clr]; omega
theorem JbO {l : List Bool} {k : Nat} (h : k < l.length) : (clr l k)[k]'(by rw [J7K (by omega)]; exact h) = l[k] := by
  simp [clr]
theorem Ji0 (l : List Bool) : clr l 0 = l := by simp [clr]
theorem Jjw {l : List Bool} {k : Nat} (h : k < l.length) : (clr l k).set k false = clr l (k + 1) := by
  unfold clr
  rw [List.drop_eq_getElem_cons h, List.set_append_right _ _ (by simp), List.length_replicate, Nat.sub_self, List.set_cons_zero, List.replicate_succ', List.append_assoc]
  rfl
def stop (l : List Bool) : Nat := match l.findIdx? fun u => !u with
  | some j => j
  | none => 0
def after (l : List Bool) : List Bool := match l.findIdx? fun u => !u with
  | some j => clr l j
  | none => List.replicate l.length false
theorem Jf3 {b : Nat} {n : Nat} {l : List Bool} {k : Nat} (h1 : 1 ≤ n) (h2 : b + n ≤ 64) (hl : l.length ≤ n) (hk : k < l.length) (hu : (l[k] : Bool) = false) :
    J0z (plz b n l k) = some (plz b n l k, ((b + k : Nat) : Int), 0) := by
  have e := J3l b l
  have ok := JbB (b := b) (n := n) (l := l) (h := k) h1 h2 hl (by omega)
  have d0 : ((((plz b n l k).Frames.length : Nat) : Int) == 0) = false := by
    have : (((frs b l).length : Nat) : Int) ≠ 0 := by omega
    simpa [plz] using this
  have i1 : idx (frs b l) (k : Int) = some (fr0 b k l[k]) := by rw [J33 (by omega), J3U hk]
  have w : J20 (n : Int) (⟨0, ([] : List T_api_Frame), 0⟩ : T_api_Pool) ((k : Int), frs b l) = some (plz b n l k, ((b + k : Nat) : Int), 0) := by
    refine J2v (f := fun s : Int × List T_api_Frame => J0S (n : Int) (⟨0, ([] : List T_api_Frame), 0⟩ : T_api_Pool) s.1 s.2) ?_
    have hu' : (fr0 b k l[k]).Used = false := hu
    simp only [J0S, i1, Option.bind_some, hu', Bool.false_eq_true, if_false, J3y, Option.map_some]
    rfl
  simp only [J0z, J6F ok, Option.bind_some, if_true, d0, Bool.false_eq_true, if_false, J76 (l := (plz b n l k).Frames) (by show (frs b l).length ≤ 1000; omega)]
  exact w
theorem J6U {b : Nat} {n : Nat} {l : List Bool} (h1 : 1 ≤ n) (h2 : b + n ≤ 64) (hl : l.length ≤ n) (h0 : 0 < l.length) :
    J0z (plz b n l 0) = some (plz b n (after l) (stop l), ((b + stop l : Nat) : Int), 0) := by
  have e := J3l b l
  have ok := JbB (b := b) (n := n) (l := l) (h := 0) h1 h2 hl (by omega)
  have d0 : ((((plz b n l 0).Frames.length : Nat) : Int) == 0) = false := by
    have : (((frs b l).length : Nat) : Int) ≠ 0 := by omega
    simpa [plz] using this
  have step : ∀ k, k < l.length → (l[k]? = some true) → (fun s : Int × List T_api_Frame => J0S (n : Int) (⟨0, ([] : List T_api_Frame), 0⟩ : T_api_Pool) s.1 s.2) ((k : Int), frs b (clr l k)) = some (.inl ((((k + 1) % l.length : Nat) : Int), frs b (clr l (k + 1)))) := by
    intro k hk hu
    have hc := J7K (l := l) (k := k) (by omega)
    have i1 : idx (frs b (clr l k)) (k : Int) = some (fr0 b k true) := by
      rw [J33 (by rw [J3l]; omega), J3U (by omega), JbO hk]
      rw [List.getElem?_eq_getElem hk] at hu
      injection hu with hu
      rw [hu]
    have w1 : IntKind.wrap .i64 ((k : Int) + 1) = ((k + 1 : Nat) : Int) := J1X (by omega)
    have r1 : J7x ((k + 1 : Nat) : Int) (((frs b (clr l k)).length : Nat) : Int) = some (((k + 1) % l.length : Nat) : Int) := by
      unfold J7x
      rw [if_neg (by rw [J3l]; omega), J3l, hc]
      rfl
    have s1 : (frs b (clr l k)).set k (fr0 b k false) = frs b (clr l (k + 1)) := by rw [JfF, Jjw hk]
    have hu' : (fr0 b k true).Used = true := rfl
    simp only [J0S, i1, Option.bind_some, hu', if_true, w1, r1, Int.toNat_natCast]
    have : (⟨(fr0 b k true).Page, (fr0 b k true).Dirty, (fr0 b k true).Rec, false⟩ : T_api_Frame) = fr0 b k false := rfl
    rw [this, s1]
  have run : ∀ m k, k + m < l.length → (∀ i, k ≤ i → i < k + m → l[i]? = some true) → J20 (n : Int) (⟨0, ([] : List T_api_Frame), 0⟩ : T_api_Pool) ((k : Int), frs b (clr l k)) = J20 (n : Int) (⟨0, ([] : List T_api_Frame), 0⟩ : T_api_Pool) (((k + m : Nat) : Int), frs b (clr l (k + m))) := by
    intro m
    induction m with
    | zero => intro k _ _; rfl
    | succ m ih =>
      intro k hk hu
      have e1 := step k (by omega) (hu k (Nat.le_refl _) (by omega))
      rw [Nat.mod_eq_of_lt (by omega)] at e1
      have := ih (k + 1) (by omega) fun i h3 h4 => hu i (by omega) (by omega)
      rw [show k + 1 + m = k + (m + 1) by omega] at this
      exact (J4i e1).trans this
  have fin : ∀ (k : Nat) (l' : List Bool), l'.length = l.length → k < l'.length → l'[k]? = some false → J20 (n : Int) (⟨0, ([] : List T_api_Frame), 0⟩ : T_api_Pool) ((k : Int), frs b l') = some (plz b n l' k, ((b + k : Nat) : Int), 0) := by
    intro k l' hl' hk hu
    have i1 : idx (frs b l') (k : Int) = some (fr0 b k false) := by
      rw [J33 (by rw [J3l]; omega), J3U hk]
      rw [List.getElem?_eq_getElem hk] at hu
      injection hu with hu
      rw [hu]
    refine J2v (f := fun s : Int × List T_api_Frame => J0S (n : Int) (⟨0, ([] : List T_api_Frame), 0⟩ : T_api_Pool) s.1 s.2) ?_
    have hu' : (fr0 b k false).Used = false := rfl
    simp only [J0S, i1, Option.bind_some, hu', Bool.false_eq_true, if_false, J3y, Option.map_some]
    rfl
  have w : J20 (n : Int) (⟨0, ([] : List T_api_Frame), 0⟩ : T_api_Pool) (0, frs b l) = some (plz b n (after l) (stop l), ((b + stop l : Nat) : Int), 0) := by
    have z : (0, frs b l) = (((0 : Nat) : Int), frs b (clr l 0)) := by rw [Ji0]; rfl
    rw [z]
    unfold after stop
    cases hf : l.findIdx? (fun u => !u) with
    | some j =>
      obtain ⟨hj, h3, h4⟩ := List.findIdx?_eq_some_iff_getElem.1 hf
      have r := run j 0 (by omega) fun i _ hi => by
        rw [List.getElem?_eq_getElem (by omega)]
        have := h4 i (by omega)
        simpa using this
      rw [r]
      simp only [Nat.zero_add]
      have hc := J7K (l := l) (k := j) (by omega)
      refine fin j (clr l j) hc (by omega) ?_
      rw [List.getElem?_eq_getElem (by omega), JbO hj]
      simpa using h3
    | none =>
      rw [List.findIdx?_eq_none_iff] at hf
      have hall : ∀ i, i < l.length → l[i]? = some true := fun i hi => by
        rw [List.getElem?_eq_getElem hi]
        have := hf _ (List.getElem_mem hi)
        simpa using this
      have r := run (l.length - 1) 0 (by omega) fun i _ hi => hall i (by omega)
      rw [r]
      simp only [Nat.zero_add]
      have e1 := step (l.length - 1) (by omega) (hall _ (by omega))
      rw [show l.length - 1 + 1 = l.length by omega, Nat.mod_self] at e1
      have hcl : clr l l.length = List.replicate l.length false := by simp [clr]
      rw [hcl] at e1
      refine (J4i e1).trans ?_
      exact fin 0 (List.replicate l.length false) (by simp) (by simpa using h0) (by simp [h0])
  simp only [J0z, J6F ok, Option.bind_some, if_true, d0, Bool.false_eq_true, if_false, J76 (l := (plz b n l 0).Frames) (by show (frs b l).length ≤ 1000; omega)]
  exact w
theorem Jko {b : Nat} {n : Nat} {l : List Bool} {h k : Nat} (h1 : 1 ≤ n) (h2 : b + n ≤ 64) (hl : l.length ≤ n) (hh : h < l.length) (hk : k < l.length) : J4b (plz b n l h) ((b + k : Nat) : Int) = some (plz b n (l.set k true) h) := by
  have e := J3l b l
  have ok := JbB (b := b) (n := n) (l := l) (h := h) h1 h2 hl (by omega)
  have a2 := Jew (b := b) (n := n) (l := l) (h := h) (k := k) (by omega)
  rw [if_pos hk] at a2
  have d1 : ((k : Int) ≥ 0) := by omega
  have i1 : idx (plz b n l h).Frames (k : Int) = some (fr0 b k l[k]) := (J33 (l := frs b l) (by omega)).trans (by rw [J3U hk])
  have a3 : J0p (plz b n l h).Frames (k : Int) (fr0 b k true) = some ((frs b l).set k (fr0 b k true)) := Jhm (l := frs b l) (by omega) (by omega) _
  rw [JfF] at a3
  have a3 : J0p (plz b n l h).Frames (k : Int) ⟨(fr0 b k l[k]).Page, (fr0 b k l[k]).Dirty, (fr0 b k l[k]).Rec, true⟩ = some (frs b (l.set k true)) := a3
  simp only [J4b, J4n, J6F ok, Option.bind_some, if_true, a2, d1, decide_true, i1, a3]
  rfl
theorem Jhf (p : T_api_Pool) (h : p.Frames.length < 1000000) : J3d p p = some true := by
  have e : J6c p p 0 = some true := by
    refine Jgt (f := fun s => J2m p p s) (l := p.Frames) h (fun k hk => ?_) ?_
    · have e1 : ((k : Nat) : Int) < (p.Frames.length : Int) := by omega
      simp only [J2m, e1, decide_true, if_true, J33 hk, Option.bind_some, beq_self_eq_true, J1X (show k < 1000000 by omega)]
    · have e1 : ¬ ((p.Frames.length : Nat) : Int) < (p.Frames.length : Int) := by omega
      simp only [J2m, e1, decide_false, Bool.false_eq_true, if_false, J4S, Option.map_some]
  simp only [J3d, bne_self_eq_false, Bool.false_eq_true, if_false, e]
end Go.Am
end
section
namespace Go.Am
set_option maxRecDepth 16000
set_option maxHeartbeats 2000000
theorem Je4 {n : Nat} (h1 : 1 ≤ n) (h2 : n ≤ 64) : J2T (n : Int) = some (plz 0 n [] 0, 0) := by
  have c1 : ¬ (n : Int) < 1 := by omega
  have c2 : ¬ (n : Int) > 64 := by omega
  simp only [J2T, c1, c2, decide_false, Bool.false_eq_true, if_false]
  rfl
theorem JfX : J2J = some true := by
  have a1 : J2T 2 = some (plz 1 2 [] 0, 0) := Je4 (n := 2) (by omega) (by omega)
  have a2 : J21 (plz 1 2 [] 0) ⟨1, 0, J6N⟩ = some (plz 1 2 [true] 0, 0) := Jc0 (b := 1) (n := 2) (l := []) (by omega) (by omega) (by simp)
  have a3 : J21 (plz 1 2 [true] 0) ⟨2, 0, J6N⟩ = some (plz 1 2 [true, true] 0, 0) := Jc0 (b := 1) (n := 2) (l := [true]) (by omega) (by omega) (by simp)
  have a4 : J0z (plz 1 2 [true, true] 0) = some (plz 1 2 [false, false] 0, 1, 0) := J6U (b := 1) (n := 2) (l := [true, true]) (by omega) (by omega) (by simp) (by simp)
  have d0 : ((0 : Int) == 0) = true := rfl
  have d1 : ((1 : Int) == 1) = true := rfl
  have d2 : ((((plz 1 2 [false, false] 0).Frames.length : Nat) : Int) == 2) = true := rfl
  have i0 : idx (plz 1 2 [false, false] 0).Frames 0 = some (fr0 1 0 false) := rfl
  have i1 : idx (plz 1 2 [false, false] 0).Frames 1 = some (fr0 1 1 false) := rfl
  have u0 : (fr0 1 0 false).Used = false := rfl
  have u1 : (fr0 1 1 false).Used = false := rfl
  unfold J2J
  simp only [a1, a2, a3, a4, d0, d1, d2, i0, i1, u0, u1, Option.bind_some, if_true, Bool.false_eq_true, if_false, Bool.not_false]
theorem J6a {l : List Bool} (h : 0 < l.length) : stop l < l.length := by
  unfold stop
  cases hf : l.findIdx? (fun u => !u) with
  | some j => exact (List.findIdx?_eq_some_iff_getElem.1 hf).1
  | none => exact h
theorem J9h (l : List Bool) : (after l).length = l.length := by
  unfold after
  cases hf : l.findIdx? (fun u => !u) with
  | some j =>
    have := (List.findIdx?_eq_some_iff_getElem.1 hf).1
    exact J7K (by omega)
  | none => simp
theorem Jg6 {l : List Bool} (h : 0 < l.length) : (after l)[stop l]'(by rw [J9h]; exact J6a h) = false := by
  have key : (after l)[stop l]? = some false := by
    unfold after stop
    cases hf : l.findIdx? (fun u => !u) with
    | some j =>
      obtain ⟨hj, h3, _⟩ := List.findIdx?_eq_some_iff_getElem.1 hf
      rw [List.getElem?_eq_getElem (by rw [J7K (by omega)]; exact hj), JbO hj]
      simpa using h3
    | none => simp [h]
  rw [List.getElem?_eq_getElem (by rw [J9h]; exact J6a h)] at key
  injection key
theorem JeO {l : List Bool} {i : Nat} (h : i < stop l) (hi : i < l.length) : l[i] = true := by
  unfold stop at h
  cases hf : l.findIdx? (fun u => !u) with
  | some j =>
    rw [hf] at h
    obtain ⟨hj, _, h4⟩ := List.findIdx?_eq_some_iff_getElem.1 hf
    simpa using h4 i h
  | none => rw [hf] at h; exact absurd h (Nat.not_lt_zero i)
theorem Jf9 {l : List Bool} (h : 0 < l.length) : (l.all id = true ∧ stop l = 0) ∨ (l.all id = false ∧ l[stop l]'(J6a h) = false) := by
  have key : (l.all id = true ∧ stop l = 0) ∨ (l.all id = false ∧ l[stop l]? = some false) := by
    unfold stop
    cases hf : l.findIdx? (fun u => !u) with
    | some j =>
      obtain ⟨hj, h3, _⟩ := List.findIdx?_eq_some_iff_getElem.1 hf
      have h3' : l[j] = false := by simpa using h3
      refine .inr ⟨?_, by rw [List.getElem?_eq_getElem hj, h3']⟩
      rw [List.all_eq_false]
      exact ⟨_, List.getElem_mem hj, by simp [h3']⟩
    | none =>
      rw [List.findIdx?_eq_none_iff] at hf
      exact .inl ⟨List.all_eq_true.2 fun x hx => by simpa using hf x hx, rfl⟩
  rcases key with h1 | ⟨h1, h2⟩
  · exact .inl h1
  · rw [List.getElem?_eq_getElem (J6a h)] at h2
    injection h2 with h2
    exact .inr ⟨h1, h2⟩
section
variable {n : Nat} (h1 : 1 ≤ n) (h2 : n ≤ 64) {l : List Bool} (hl : l.length = n)
include h1 h2 hl
theorem JkQ : J2h ((stop l : Nat) : Int) (plz 0 n (after l) (stop l)) = some true := by
  have hs := J6a (l := l) (by omega)
  have ha := J9h l
  have a1 := Jf3 (b := 0) (n := n) (l := after l) (k := stop l) h1 (by omega) (by omega) (by omega) (Jg6 (by omega))
  have d0 : ((0 : Int) == 0) = true := rfl
  have d1 : (((0 + stop l : Nat) : Int) == ((stop l : Nat) : Int)) = true := by simp
  have e := J3l 0 (after l)
  simp only [J2h, a1, Option.bind_some, d0, d1, if_true, Jhf (plz 0 n (after l) (stop l)) (by show (frs 0 (after l)).length < _; omega)]
theorem Jhc : J3e ((stop l : Nat) : Int) l (plz 0 n (after l) (stop l)) 0 = some true := by
  have hs := J6a (l := l) (by omega)
  have := JeG (f := fun s => J16 ((stop l : Nat) : Int) l (plz 0 n (after l) (stop l)) s) (n := stop l) (fun _ => True) true true (by omega) (fun k hk => .inl ⟨trivial, by
    have e1 : ((k : Nat) : Int) < ((stop l : Nat) : Int) := by omega
    simp only [J16, e1, decide_true, if_true, J33 (show k < l.length by omega), Option.bind_some, JeO hk (by omega), J1X (show k < 1000000 by omega)]⟩) (by
    have e1 : ¬ ((stop l : Nat) : Int) < ((stop l : Nat) : Int) := by omega
    simp only [J16, e1, decide_false, Bool.false_eq_true, if_false, JkQ h1 h2 hl, Option.map_some])
  rcases this with ⟨e, _⟩ | ⟨e, _⟩ <;> exact e
theorem Jll : J2g (n : Int) ((stop l : Nat) : Int) 0 (l.all id) l (plz 0 n (after l) (stop l)) = some true := by
  have hs := J6a (l := l) (by omega)
  have d0 : ((0 : Int) != 0) = false := rfl
  have c1 : ¬ ((stop l : Nat) : Int) < 0 := by omega
  have c2 : ¬ ((stop l : Nat) : Int) ≥ (n : Int) := by omega
  unfold J2g
  simp only [d0, c1, c2, decide_false, Bool.false_eq_true, if_false]
  rcases Jf9 (l := l) (by omega) with ⟨a, b⟩ | ⟨a, b⟩
  · have d1 : (((stop l : Nat) : Int) != 0) = false := by simp [b]
    simp only [a, if_true, d1, Bool.false_eq_true, if_false, Jhc h1 h2 hl]
  · simp only [a, Bool.false_eq_true, if_false, J33 (show stop l < l.length from hs), b, Option.bind_some, Jhc h1 h2 hl]
theorem Jlv : J4C (n : Int) ((stop l : Nat) : Int) 0 l (plz 0 n (after l) (stop l)) (true, 0) = some true := by
  obtain ⟨o, ho, rfl⟩ := J1F (f := fun s : Bool × Int => J0N (n : Int) ((stop l : Nat) : Int) 0 l (plz 0 n (after l) (stop l)) s.1 s.2) (fun s => ∃ j : Nat, s.2 = j ∧ j ≤ n ∧ s.1 = (l.take j).all id) (fun s => (n - s.2).toNat) (fun o => o = true) (fun s ⟨j, hj, h4, hs⟩ => by
    obtain ⟨q, i⟩ := s
    simp only at hj hs
    subst hj
    by_cases hlt : j < n
    · left
      have e1 : ((j : Nat) : Int) < (n : Int) := by omega
      refine ⟨((l.take (j + 1)).all id, ((j + 1 : Nat) : Int)), ?_, ⟨j + 1, rfl, by omega, rfl⟩, by simp; omega⟩
      have hjl : j < l.length := by omega
      rw [Jhz hjl, List.all_append]
      cases hq : q with
      | true =>
        rw [hq] at hs
        simp only [J0N, e1, decide_true, if_true, J33 hjl, Option.bind_some, J1A, J1X (show j < 1000000 by omega), ← hs]
        simp
      | false =>
        rw [hq] at hs
        simp only [J0N, e1, decide_true, if_true, Bool.false_eq_true, if_false, J1A, J1X (show j < 1000000 by omega), ← hs]
        simp
    · right
      have e1 : ¬ ((j : Nat) : Int) < (n : Int) := by omega
      have hq : q = l.all id := by rw [hs, List.take_of_length_le (by omega)]
      refine ⟨true, ?_, rfl⟩
      simp only [J0N, e1, decide_false, Bool.false_eq_true, if_false, hq, Jll h1 h2 hl, Option.map_some]) (true, 0) ⟨0, rfl, by omega, by simp⟩
  exact ho
theorem Jlh : J2e (n : Int) (plz 0 n l 0) l = some true := by
  have a1 := J6U (b := 0) (n := n) (l := l) h1 (by omega) (by omega) (by omega)
  have e0 : ((0 + stop l : Nat) : Int) = ((stop l : Nat) : Int) := by simp
  rw [e0] at a1
  simp only [J2e, a1, Option.bind_some, Jlv h1 h2 hl]
end
theorem JlB {n : Nat} (h1 : 1 ≤ n) (h2 : n ≤ 64) {uses : List Int} (hu : ∀ x ∈ uses, 0 ≤ x ∧ x ≤ 255) (h60 : uses.length ≤ 60) : J4B (n : Int) uses ((uses.length : Nat) : Int) (0, plz 0 n (List.replicate n false) 0, List.replicate n false) = some true := by
  obtain ⟨o, ho, rfl⟩ := J1F (f := fun s : Int × T_api_Pool × List Bool => J17 (n : Int) uses ((uses.length : Nat) : Int) s.1 s.2.1 s.2.2) (fun s => ∃ j : Nat, s.1 = j ∧ j ≤ uses.length ∧ s.2.2.length = n ∧ s.2.1 = plz 0 n s.2.2 0) (fun s => (uses.length - s.1).toNat) (fun o => o = true) (fun s ⟨j, hj, h4, hl, hs⟩ => by
    obtain ⟨i, p, l⟩ := s
    simp only at hj hs hl
    subst hj hs
    by_cases hlt : j < uses.length
    · left
      have e1 : ((j : Nat) : Int) < ((uses.length : Nat) : Int) := by omega
      have hx := hu _ (List.getElem_mem hlt)
      obtain ⟨x, hx'⟩ : ∃ x : Nat, uses[j] = (x : Int) := ⟨uses[j].toNat, by omega⟩
      have w : IntKind.wrap .i64 (x : Int) = (x : Int) := J71 (by omega) (by omega)
      have r : J7x (x : Int) (n : Int) = some ((x % n : Nat) : Int) := by
        unfold J7x
        rw [if_neg (by omega)]
        rfl
      have hm : x % n < n := Nat.mod_lt _ (by omega)
      have a := Jko (b := 0) (n := n) (l := l) (h := 0) (k := x % n) h1 (by omega) (by omega) (by omega) (by omega)
      rw [show (0 + x % n : Nat) = x % n by omega] at a
      refine ⟨(((j + 1 : Nat) : Int), plz 0 n (l.set (x % n) true) 0, l.set (x % n) true), ?_, ⟨j + 1, rfl, by omega, by simpa using hl, rfl⟩, by simp; omega⟩
      simp only [J17, e1, decide_true, if_true, J33 hlt, hx', Option.bind_some, w, r, J33 (show x % n < l.length by omega), Int.toNat_natCast, a, J1X (show j < 1000000 by omega)]
    · right
      have e1 : ¬ ((j : Nat) : Int) < ((uses.length : Nat) : Int) := by omega
      refine ⟨true, ?_, rfl⟩
      simp only [J17, e1, decide_false, Bool.false_eq_true, if_false, Jlh h1 h2 hl, Option.map_some]) (0, plz 0 n (List.replicate n false) 0, List.replicate n false) ⟨0, rfl, by omega, by simp, rfl⟩
  exact ho
theorem Jlf {n : Nat} (h1 : 1 ≤ n) (h2 : n ≤ 64) {uses : List Int} (hu : ∀ x ∈ uses, 0 ≤ x ∧ x ≤ 255) (h60 : uses.length ≤ 60) : J2i uses (n : Int) 0 (plz 0 n (List.replicate n true) 0) = some true := by
  have a1 := J6U (b := 0) (n := n) (l := List.replicate n true) h1 (by omega) (by simp) (by simp; omega)
  have hf : (List.replicate n true).findIdx? (fun u => !u) = none := by
    rw [List.findIdx?_eq_none_iff]
    intro x hx
    rw [(List.mem_replicate.1 hx).2]; rfl
  have s0 : stop (List.replicate n true) = 0 := by unfold stop; rw [hf]
  have s1 : after (List.replicate n true) = List.replicate n false := by unfold after; rw [hf]; simp
  rw [s0, s1] at a1
  have a1 : J0z (plz 0 n (List.replicate n true) 0) = some (plz 0 n (List.replicate n false) 0, 0, 0) := a1
  have d0 : ((0 : Int) != 0) = false := rfl
  have m : mkS 1 (n : Int) (n : Int) false = some (List.replicate n false) := by
    unfold mkS
    rw [if_pos (by omega), Int.toNat_natCast]
  simp only [J2i, a1, Option.bind_some, d0, Bool.false_eq_true, if_false, m, JlB h1 h2 hu h60]
theorem Ja9 {x : Int} {uses : List Int} (h : 0 ≤ x ∧ x ≤ 255) (hu : List.length uses ≤ maxLen ∧ ∀ x ∈ uses, 0 ≤ x ∧ x ≤ 255) : J2M x uses = some true := by
  unfold J2M
  simp only [JfX, Option.bind_some, if_true]
  by_cases c1 : ((uses.length : Nat) : Int) > 60
  · simp only [c1, decide_true, if_true]
  simp only [c1, decide_false, Bool.false_eq_true, if_false]
  obtain ⟨y, rfl⟩ : ∃ y : Nat, x = (y : Int) := ⟨x.toNat, by omega⟩
  have w : IntKind.wrap .i64 (y : Int) = (y : Int) := J71 (by omega) (by omega)
  have r : J7x (y : Int) 8 = some ((y % 8 : Nat) : Int) := rfl
  have w2 : IntKind.wrap .i64 (2 + ((y % 8 : Nat) : Int)) = ((2 + y % 8 : Nat) : Int) := by rw [J71 (by omega) (by omega)]; omega
  have hm : y % 8 < 8 := Nat.mod_lt _ (by omega)
  obtain ⟨n, hn⟩ : ∃ n, n = 2 + y % 8 := ⟨_, rfl⟩
  simp only [w, r, w2, Option.bind_some, ← hn, Je4 (n := n) (by omega) (by omega)]
  obtain ⟨o, ho, rfl⟩ := J1F (f := fun s : Int × T_api_Pool => J18 uses (n : Int) 0 s.1 s.2) (fun s => ∃ j : Nat, s.1 = j ∧ j ≤ n ∧ s.2 = plz 0 n (List.replicate j true) 0) (fun s => (n - s.1).toNat) (fun o => o = true) (fun s ⟨j, hj, h4, hs⟩ => by
    obtain ⟨i, p⟩ := s
    simp only at hj hs
    subst hj hs
    by_cases hlt : j < n
    · left
      have e1 : ((j : Nat) : Int) < (n : Int) := by omega
      have a := Jc0 (b := 0) (n := n) (l := List.replicate j true) (by omega) (by omega) (by simpa using hlt)
      rw [List.length_replicate, Nat.zero_add, ← List.replicate_succ'] at a
      have d0 : ((0 : Int) != 0) = false := rfl
      refine ⟨(((j + 1 : Nat) : Int), plz 0 n (List.replicate (j + 1) true) 0), ?_, ⟨j + 1, rfl, by omega, rfl⟩, by simp; omega⟩
      simp only [J18, e1, decide_true, if_true, a, Option.bind_some, d0, Bool.false_eq_true, if_false, J1X (show j < 1000000 by omega)]
    · right
      obtain rfl : j = n := by omega
      have e1 : ¬ ((j : Nat) : Int) < (j : Int) := by omega
      refine ⟨true, ?_, rfl⟩
      simp only [J18, e1, decide_false, Bool.false_eq_true, if_false, Jlf (n := j) (by omega) (by omega) hu.2 (by omega), Option.map_some]) (0, plz 0 n [] 0) ⟨0, rfl, by omega, rfl⟩
  exact ho
end Go.Am
end
section
namespace Go.Am
section
variable (P : Program)
def J5Z : Nat → TypeId → Bool
  | 0, _ => false
  | n + 1, t => match P.underlying t with
    | some .bool => true
    | some (.int _) => true
    | some .string => true
    | some (.slice e) => J5Z n e && decide (t < P.types.size ∧ 0 < P.cellsOf e)
    | some (.struct fs) => fs.toList.all (fun f => J5Z n f.type) && decide (t < P.types.size)
    | some (.array _ e) => J5Z n e && decide (t < P.types.size)
    | _ => false
def J5F : Nat → TypeId → List PV → Prop
  | 0, _, _ => False
  | n + 1, t, pvs => match P.underlying t with
    | some .bool => ∃ b, pvs = [.b b]
    | some (.int k) => ∃ z, pvs = [.i k z] ∧ (Lit.int k z).wf = true
    | some .string => ∃ l, pvs = [.s l] ∧ l.length ≤ maxLen
    | some (.slice e) => ∃ rows, pvs = [.sl (P.cellsOf e) rows] ∧ rows.length ≤ maxLen ∧ ∀ row ∈ rows, row.length = P.cellsOf e ∧ J5F n e row
    | some (.struct fs) => pvs.length = P.cellsOf t ∧ ∀ f ∈ fs.toList, J5F n f.type ((pvs.drop f.offset).take (P.cellsOf f.type))
    | some (.array m e) => pvs.length = P.cellsOf t ∧ ∀ i, i < m → J5F n e ((pvs.drop (i * P.cellsOf e)).take (P.cellsOf e))
    | _ => False
end
section
variable {H : Type} {enc : TypeId × Value → H} {P : Program} {w : World} {base : Nat} {sp : Nat → Bool} {held : Bool}
def Jg7 (w : World) (pvs : List PV) (cs : List Value) : Prop :=
  pvs.length = cs.length ∧ ∀ (i : Nat) p v, pvs[i]? = some p → cs[i]? = some v → JJ w (fun r _ => r < w.heap.size) p v
theorem Jd2 {a : Addr} {v : Value} (h : w.cell? a = some v) : a.spot = none ∧ JZ w a.block a.off = some v ∧ a.block < w.heap.size := by
  unfold World.cell? at h
  unfold JZ
  split at h
  · rename_i c t fz hb
    split at h
    · cases h
    · rename_i hs
      refine ⟨by simpa using hs, by rw [hb]; exact h, ?_⟩
      have := Array.getElem?_eq_some_iff.1 hb
      exact this.1
  · cases h
theorem Jih {a : Addr} {n : Nat} {cs : List Value} (h : w.cells? base a n = some cs) : cs.length = n ∧ ∀ i v, cs[i]? = some v → w.cell? (a.add i) = some v := by
  unfold World.cells? at h
  split at h
  · have hl := mapM_some_length h
    refine ⟨by simpa using hl, fun i v hv => ?_⟩
    have hi : i < n := by
      have := (List.getElem?_eq_some_iff.1 hv).1
      simp at hl; omega
    have := mapM_some_get h i i (by simp [hi])
    rw [this, hv]
  · cases h
theorem JbM {α : Type} (Q : Nat → α → Prop) : ∀ (m : Nat), (∀ i, i < m → ∃ x, Q i x) → ∃ xs : List α, xs.length = m ∧ ∀ i x, xs[i]? = some x → Q i x
  | 0, _ => ⟨[], rfl, fun i x h => by simp at h⟩
  | m + 1, h => by
    obtain ⟨xs, hl, hx⟩ := JbM Q m (fun i hi => h i (by omega))
    obtain ⟨y, hy⟩ := h m (by omega)
    refine ⟨xs ++ [y], by simp [hl], fun i x hi => ?_⟩
    rcases Nat.lt_or_ge i xs.length with hlt | hge
    · rw [List.getElem?_append_left hlt] at hi; exact hx i x hi
    · rw [List.getElem?_append_right hge] at hi
      have : i - xs.length = 0 := by
        have := (List.getElem?_eq_some_iff.1 hi).1
        simp at this; omega
      rw [this] at hi
      simp at hi; subst hi
      obtain rfl : i = m := by omega
      exact hy
theorem J9D {α : Type} : ∀ (xs : List (List α)) (j : Nat) (y : List α), xs[j]? = some y → (xs.flatten.drop ((xs.take j).map List.length).sum).take y.length = y
  | [], j, y, h => by simp at h
  | x :: xs, 0, y, h => by simp at h; subst h; simp
  | x :: xs, j + 1, y, h => by
    simp at h
    have := J9D xs j y h
    simp only [List.take_succ_cons, List.map_cons, List.sum_cons, List.flatten_cons, List.drop_length_add_append]
    exact this
theorem JjT (hl : laidOutB P = true) (hm : mapsRowed P = true) : ∀ (n : Nat) (t : TypeId) (cs : List Value) (x : DataW H × List MemPlace) (fuel : Nat), J5Z P n t = true → DataW.trod enc P w base sp held fuel t cs = some x →
    ∃ pvs, J5F P n t pvs ∧ Jg7 w pvs cs := by
  have K := kids_rows hl hm
  intro n
  induction n with
  | zero => intro t cs x fuel hp; simp [J5Z] at hp
  | succ n ih =>
    intro t cs x fuel hp h
    unfold J5Z at hp
    unfold J5F
    split at hp
    · rename_i ht
      obtain ⟨b, rfl, _⟩ := DataW.trod_bool ht h
      refine ⟨[.b b], by simp, rfl, fun i p v h1 h2 => ?_⟩
      match i with
      | 0 => simp at h1 h2; subst h1 h2; exact .b _
      | i + 1 => simp at h1
    · rename_i k ht
      obtain ⟨z, rfl, _, hwf⟩ := DataW.trod_int ht h
      refine ⟨[.i k z], by simpa using hwf, rfl, fun i p v h1 h2 => ?_⟩
      match i with
      | 0 => simp at h1 h2; subst h1 h2; exact .i _ _
      | i + 1 => simp at h1
    · rename_i ht
      obtain ⟨s, rfl, _, hsz⟩ := DataW.trod_string ht h
      refine ⟨[.s s.data.toList], ⟨_, rfl, by rw [Array.length_toList]; exact hsz⟩, rfl, fun i p v h1 h2 => ?_⟩
      match i with
      | 0 => simp at h1 h2; subst h1 h2; exact .s _
      | i + 1 => simp at h1
    · rename_i e ht
      simp only [Bool.and_eq_true, decide_eq_true_eq] at hp
      rcases DataW.trod_slice ht h with ⟨rfl, _⟩ | ⟨a, len, cap, elems, rest, n0, _, rfl, _, _, hlc, hcm, hel, hat, _⟩
      · refine ⟨[.sl (P.cellsOf e) []], ⟨[], rfl, Nat.zero_le _, by simp⟩, rfl, fun i p v h1 h2 => ?_⟩
        match i with
        | 0 => simp at h1 h2; subst h1 h2; exact .sl0 _ _ _
        | i + 1 => simp at h1
      ·
        have hrow : ∀ i, i < len → ∃ row : List PV, (row.length = P.cellsOf e ∧ J5F P n e row) ∧ ∀ j p, row[j]? = some p → ∃ v, w.cell? (a.add (i * P.cellsOf e) |>.add j) = some v ∧ JJ w (fun r _ => r < w.heap.size) p v := by
          intro i hi
          have h1 := hat i hi
          have h2 : ∃ y, elems[i]? = some y := ⟨_, List.getElem?_eq_getElem (by omega)⟩
          obtain ⟨y, hy⟩ := h2
          rw [hy, Option.bind_eq_some_iff] at h1
          obtain ⟨cs', hc, ht'⟩ := h1
          obtain ⟨row, q1, q2, q3⟩ := ih e cs' y n0 hp.1 ht'
          obtain ⟨c1, c2⟩ := Jih hc
          refine ⟨row, ⟨by omega, q1⟩, fun j p hj => ?_⟩
          have hlt : j < cs'.length := by have := (List.getElem?_eq_some_iff.1 hj).1; omega
          have hv := List.getElem?_eq_getElem hlt
          exact ⟨_, c2 j _ hv, q3 j p _ hj hv⟩
        obtain ⟨rows, hrl, hrows⟩ := JbM _ len hrow
        refine ⟨[.sl (P.cellsOf e) rows], ⟨rows, rfl, by omega, fun row hr => ?_⟩, rfl, fun i p v h1 h2 => ?_⟩
        · obtain ⟨i, hi⟩ := List.getElem?_of_mem hr
          exact (hrows i row hi).1
        match i with
        | i + 1 => simp at h1
        | 0 =>
          simp at h1 h2; subst h1 h2
          by_cases h0 : ∃ (i j : Nat) (row : List PV) (p : PV), rows[i]? = some row ∧ row[j]? = some p
          · obtain ⟨i0, j0, row0, p0, hr0, hp0⟩ := h0
            have spot : a.spot = none ∨ P.cellsOf e = 0 := by
              rcases Nat.eq_zero_or_pos (P.cellsOf e) with hz | hpos
              · exact .inr hz
              · have hlen : 0 < len := by have := (List.getElem?_eq_some_iff.1 hr0).1; omega
                have hr00 := List.getElem?_eq_getElem (l := rows) (i := 0) (by omega)
                have q := hrows 0 _ hr00
                have hj0 := List.getElem?_eq_getElem (l := rows[0]'(by omega)) (i := 0) (by omega)
                obtain ⟨v, hv, _⟩ := q.2 0 _ hj0
                rw [Nat.zero_mul] at hv
                exact .inl (by simpa [Addr.add] using (Jd2 hv).1)
            rcases spot with spot | hz
            · have cell : ∀ (i j : Nat) (row : List PV) (p : PV), rows[i]? = some row → row[j]? = some p → ∃ v, (a.block < w.heap.size ∧ JZ w a.block (a.off + i * P.cellsOf e + j) = some v) ∧ JJ w (fun r _ => r < w.heap.size) p v := by
                intro i j row p hi hj
                obtain ⟨v, hv, hr⟩ := (hrows i row hi).2 j p hj
                obtain ⟨s1, s2, s3⟩ := Jd2 hv
                refine ⟨v, ?_, hr⟩
                have e1 : ((a.add (i * P.cellsOf e)).add j).block = a.block := by unfold Addr.add; split <;> split <;> rfl
                have e2 : ((a.add (i * P.cellsOf e)).add j).off = a.off + i * P.cellsOf e + j := by
                  unfold Addr.add
                  split <;> split <;> simp_all
                rw [e1] at s3
                rw [e1, e2] at s2
                exact ⟨s3, s2⟩
              have ea : a = ⟨a.block, a.off, none⟩ := by cases a; simp_all
              rw [ea, ← hrl]
              refine .sl _ rows a.block a.off cap (fun i j => ((JZ w a.block (a.off + i * P.cellsOf e + j)).getD default)) (by omega) (fun row hr => ?_) (fun i j row p hi hj => ?_) (fun i j row p hi hj => ?_)
              · obtain ⟨i, hi⟩ := List.getElem?_of_mem hr
                exact (hrows i row hi).1.1
              · obtain ⟨v, ⟨h3, h4⟩, _⟩ := cell i j row p hi hj
                exact ⟨h3, by rw [h4]; rfl⟩
              · obtain ⟨v, ⟨h3, h4⟩, h5⟩ := cell i j row p hi hj
                rw [h4]; exact h5
            · have := (hrows i0 row0 hr0).1.1
              have := (List.getElem?_eq_some_iff.1 hp0).1
              omega
          ·
            rcases Nat.eq_zero_or_pos len with hz | hpos
            · have : rows = [] := by cases rows <;> simp_all
              subst this
              subst hz
              exact .sl0 _ _ _
            · exfalso
              have hr00 := List.getElem?_eq_getElem (l := rows) (i := 0) (by omega)
              have q := (hrows 0 _ hr00).1.1
              exact h0 ⟨0, 0, _, _, hr00, List.getElem?_eq_getElem (by omega)⟩
    · rename_i fs ht
      simp only [Bool.and_eq_true, decide_eq_true_eq, List.all_eq_true] at hp
      obtain ⟨xs, n0, _, _, hcl, hxl, hat⟩ := DataW.trod_struct ht h
      obtain ⟨_, ksum, koff⟩ := K.struct hp.2 ht
      have hf : ∀ i, i < fs.toList.length → ∃ ys : List PV, ∀ f, fs.toList[i]? = some f → J5F P n f.type ys ∧ Jg7 w ys ((cs.drop f.offset).take (P.cellsOf f.type)) := by
        intro i hi
        have hfi := List.getElem?_eq_getElem hi
        have hmem := List.mem_of_getElem? hfi
        have hfa : fs[i]? = some (fs.toList[i]) := by rw [← Array.getElem?_toList]; exact hfi
        have h1 := hat i _ hfa
        have h2 : ∃ y, xs[i]? = some y := ⟨_, List.getElem?_eq_getElem (by simpa [hxl] using hi)⟩
        obtain ⟨y, hy⟩ := h2
        rw [hy] at h1
        obtain ⟨ys, q1, q2⟩ := ih _ _ _ _ (hp.1 _ hmem) h1
        refine ⟨ys, fun f hff => ?_⟩
        rw [hfi] at hff; injection hff with hff; subst hff
        exact ⟨q1, q2⟩
      obtain ⟨yss, hyl, hys⟩ := JbM _ _ hf
      have hlen : ∀ (j : Nat) (f : Field), fs.toList[j]? = some f → ∀ ys : List PV, yss[j]? = some ys → ys.length = P.cellsOf f.type := by
        intro j f hj ys hy
        have q := (hys j ys hy f hj).2.1
        have o := koff j f hj
        rw [q, List.length_take, List.length_drop, hcl, ksum, o]
        have : ((fs.toList.take j).map fun f => P.cellsOf f.type).sum + P.cellsOf f.type ≤ (fs.toList.map fun f => P.cellsOf f.type).sum := by
          have e1 : fs.toList = fs.toList.take j ++ (f :: fs.toList.drop (j + 1)) := by
            have hjl := (List.getElem?_eq_some_iff.1 hj)
            obtain ⟨hjl, he⟩ := hjl
            rw [← he, ← List.drop_eq_getElem_cons hjl, List.take_append_drop]
          conv => rhs; rw [e1]
          simp only [List.map_append, List.map_cons, List.sum_append, List.sum_cons]
          omega
        omega
      have hmapl : yss.map List.length = fs.toList.map fun f => P.cellsOf f.type := by
        apply List.ext_getElem?
        intro j
        rw [List.getElem?_map, List.getElem?_map]
        cases hy : yss[j]? with
        | none =>
          have : fs.toList[j]? = none := by rw [List.getElem?_eq_none_iff] at hy ⊢; omega
          rw [this]; rfl
        | some ys =>
          have hj : j < fs.toList.length := by have := (List.getElem?_eq_some_iff.1 hy).1; omega
          have hfj := List.getElem?_eq_getElem hj
          rw [hfj]
          simp only [Option.map_some]
          rw [hlen j _ hfj ys hy]
      have hoff : ∀ (j : Nat) (f : Field), fs.toList[j]? = some f → ((yss.take j).map List.length).sum = f.offset := by
        intro j f hj
        rw [koff j f hj, List.map_take, hmapl, ← List.map_take]
      refine ⟨yss.flatten, ⟨?_, fun f hf => ?_⟩, ?_, fun i p v h1 h2 => ?_⟩
      · rw [List.length_flatten, hmapl, ksum]
      · obtain ⟨j, hj⟩ := List.getElem?_of_mem hf
        have hjl : j < yss.length := by have := (List.getElem?_eq_some_iff.1 hj).1; omega
        have hyj := List.getElem?_eq_getElem hjl
        have := J9D yss j _ hyj
        rw [hoff j f hj, hlen j f hj _ hyj] at this
        rw [this]
        exact (hys j _ hyj f hj).1
      · rw [List.length_flatten, hmapl, hcl, ksum]
      ·
        have key : ∀ (l : List (List PV)) (i : Nat) p, l.flatten[i]? = some p → ∃ j ys k, l[j]? = some ys ∧ ys[k]? = some p ∧ i = ((l.take j).map List.length).sum + k := by
          intro l
          induction l with
          | nil => intro i p h; simp at h
          | cons y l ihl =>
            intro i p h
            rw [List.flatten_cons] at h
            rcases Nat.lt_or_ge i y.length with hlt | hge
            · rw [List.getElem?_append_left hlt] at h
              exact ⟨0, y, i, rfl, h, by simp⟩
            · rw [List.getElem?_append_right hge] at h
              obtain ⟨j, ys, k, a1, a2, a3⟩ := ihl _ _ h
              exact ⟨j + 1, ys, k, by simpa using a1, a2, by simp only [List.take_succ_cons, List.map_cons, List.sum_cons]; omega⟩
        obtain ⟨j, ys, k, a1, a2, a3⟩ := key _ _ _ h1
        have hj : j < fs.toList.length := by have := (List.getElem?_eq_some_iff.1 a1).1; omega
        have hfj := List.getElem?_eq_getElem hj
        have q := (hys j ys a1 _ hfj).2
        refine q.2 k p v a2 ?_
        have hk : k < P.cellsOf (fs.toList[j]).type := by have := (List.getElem?_eq_some_iff.1 a2).1; rw [hlen j _ hfj ys a1] at this; exact this
        rw [List.getElem?_take_of_lt hk, List.getElem?_drop, ← hoff j _ hfj, ← a3]
        exact h2
    · rename_i m e ht
      simp only [Bool.and_eq_true, decide_eq_true_eq] at hp
      obtain ⟨xs, n0, _, _, hcl, hxl, hat⟩ := DataW.trod_array ht h
      obtain ⟨_, ksz⟩ := K.array hp.2 ht
      have hf : ∀ i, i < m → ∃ ys : List PV, J5F P n e ys ∧ Jg7 w ys ((cs.drop (i * P.cellsOf e)).take (P.cellsOf e)) := by
        intro i hi
        have h1 := hat i hi
        have h2 : ∃ y, xs[i]? = some y := ⟨_, List.getElem?_eq_getElem (by omega)⟩
        obtain ⟨y, hy⟩ := h2
        rw [hy] at h1
        exact ih _ _ _ _ hp.1 h1
      obtain ⟨yss, hyl, hys⟩ := JbM _ _ hf
      have hlen : ∀ (j : Nat) ys, yss[j]? = some ys → ys.length = P.cellsOf e := by
        intro j ys hy
        have q := (hys j ys hy).2.1
        have hj : j < m := by have := (List.getElem?_eq_some_iff.1 hy).1; omega
        rw [q, List.length_take, List.length_drop, hcl, ksz]
        have : j * P.cellsOf e + P.cellsOf e ≤ m * P.cellsOf e := by rw [← Nat.succ_mul]; exact Nat.mul_le_mul_right _ hj
        omega
      have hall : ∀ y ∈ yss, y.length = P.cellsOf e := fun y hy => by
        obtain ⟨j, hj⟩ := List.getElem?_of_mem hy
        exact hlen j y hj
      have hsum : ∀ l : List (List PV), (∀ y ∈ l, y.length = P.cellsOf e) → (l.map List.length).sum = l.length * P.cellsOf e := by
        intro l
        induction l with
        | nil => intro _; simp
        | cons y l ihl => intro hh; simp [hh y (by simp), ihl (fun z hz => hh z (by simp [hz])), Nat.succ_mul, Nat.add_comm]
      have hoff : ∀ j, j ≤ m → ((yss.take j).map List.length).sum = j * P.cellsOf e := by
        intro j hj
        rw [hsum _ (fun y hy => hall y (List.mem_of_mem_take hy)), List.length_take, hyl, Nat.min_eq_left hj]
      refine ⟨yss.flatten, ⟨?_, fun j hj => ?_⟩, ?_, fun i p v h1 h2 => ?_⟩
      · rw [List.length_flatten, hsum _ hall, hyl, ksz]
      · have hyj := List.getElem?_eq_getElem (l := yss) (i := j) (by omega)
        have := J9D yss j _ hyj
        rw [hoff j (by omega), hlen j _ hyj] at this
        rw [this]
        exact (hys j _ hyj).1
      · rw [List.length_flatten, hsum _ hall, hcl, hyl, ksz]
      · have key : ∀ (l : List (List PV)) (i : Nat) p, l.flatten[i]? = some p → ∃ j ys k, l[j]? = some ys ∧ ys[k]? = some p ∧ i = ((l.take j).map List.length).sum + k := by
          intro l
          induction l with
          | nil => intro i p h; simp at h
          | cons y l ihl =>
            intro i p h
            rw [List.flatten_cons] at h
            rcases Nat.lt_or_ge i y.length with hlt | hge
            · rw [List.getElem?_append_left hlt] at h
              exact ⟨0, y, i, rfl, h, by simp⟩
            · rw [List.getElem?_append_right hge] at h
              obtain ⟨j, ys, k, a1, a2, a3⟩ := ihl _ _ h
              exact ⟨j + 1, ys, k, by simpa using a1, a2, by simp only [List.take_succ_cons, List.map_cons, List.sum_cons]; omega⟩
        obtain ⟨j, ys, k, a1, a2, a3⟩ := key _ _ _ h1
        have hj : j < m := by have := (List.getElem?_eq_some_iff.1 a1).1; omega
        have q := (hys j ys a1).2
        refine q.2 k p v a2 ?_
        have hk : k < P.cellsOf e := by have := (List.getElem?_eq_some_iff.1 a2).1; rw [hlen j ys a1] at this; exact this
        rw [List.getElem?_take_of_lt hk, List.getElem?_drop, ← hoff j (by omega), ← a3]
        exact h2
    · cases hp
end
end Go.Am
end
section
namespace Go.Am
open Go.ChangeShapes Go.WideShapes Go.ChangeAt Go.RowKit
def gh0 (w : World) : Gh := ⟨fun _ => none, fun r _ => r < w.heap.size⟩
theorem Jc7 (g : Gh) (w : World) (b r o : Nat) : ¬ Wr1 ⟨[], g, w⟩ b r o := by
  unfold Wr1; simp
theorem JmG (w : World) : Inv ⟨[], gh0 w, w⟩ where
  box := fun b cs h => by simp at h
  arr := fun b wm esz rows h => by simp at h
  apart := fun b1 b2 r o h => absurd h (Jc7 _ _ _ _ _)
  const := fun r o h => ⟨h, fun b => Jc7 _ _ _ _ _⟩
def J7h (w w' : World) : Prop := J79 (fun _ _ => False) w w'
theorem J7h.kept {w w' : World} (h : J7h w w') (may : MemPlace → Prop) : w.keptBut w' may := by
  obtain ⟨h1, h2, h3, h4, h5⟩ := h
  refine ⟨h4, h5, fun i hi => ?_⟩
  have hg := Array.getElem?_eq_getElem hi
  cases hw : w.heap[i]? with
  | none => rw [hg] at hw; cases hw
  | some x =>
    cases x with
    | cells c e fz =>
      obtain ⟨c', q1, q2, q3⟩ := h2 i c e fz hw
      rw [q1]
      exact ⟨rfl, rfl, q2, fun j _ => q3 j (fun hf => hf)⟩
    | map es clock =>
      have := h3 i _ hw (fun c e fz he => by cases he)
      rw [this]
      exact .inr ⟨rfl, rfl⟩
    | _ =>
      have := h3 i _ hw (fun c e fz he => by cases he)
      rw [this]
theorem J7h.same {w w' : World} (h : J7h w w') {p : MemPlace} (hp : p.block < w.heap.size) : w.sameAt w' p := by
  obtain ⟨h1, h2, h3, h4, h5⟩ := h
  cases p with
  | cell b off =>
    have hb : b < w.heap.size := hp
    have hg := Array.getElem?_eq_getElem hb
    show w'.cell? ⟨b, off, none⟩ = w.cell? ⟨b, off, none⟩
    rw [J56, J56]
    unfold JZ
    cases hw : w.heap[b]? with
    | none => rw [hg] at hw; cases hw
    | some x =>
      cases x with
      | cells c e fz =>
        obtain ⟨c', q1, q2, q3⟩ := h2 b c e fz hw
        rw [q1]
        exact q3 off (fun hf => hf)
      | _ =>
        have := h3 b _ hw (fun c e fz he => by cases he)
        rw [this]
  | map b =>
    have hb : b < w.heap.size := hp
    have hg := Array.getElem?_eq_getElem hb
    show w'.heap[b]? = w.heap[b]?
    cases hw : w.heap[b]? with
    | none => rw [hg] at hw; cases hw
    | some x =>
      cases x with
      | cells c e fz =>
        obtain ⟨c', q1, q2, q3⟩ := h2 b c e fz hw
        rw [q1]
        have : c' = c := by
          apply Array.ext_getElem?
          intro i
          exact q3 i (fun hf => hf)
        rw [this]
      | _ => exact h3 b _ hw (fun c e fz he => by cases he)
theorem J7h.frozen {w w' : World} (h : J7h w w') {a : Addr} (hp : a.block < w.heap.size) : w'.frozen? a = w.frozen? a := by
  obtain ⟨h1, h2, h3, h4, h5⟩ := h
  have hg := Array.getElem?_eq_getElem hp
  unfold World.frozen?
  cases hw : w.heap[a.block]? with
  | none => rw [hg] at hw; cases hw
  | some x =>
    cases x with
    | cells c e fz =>
      obtain ⟨c', q1, q2, q3⟩ := h2 a.block c e fz hw
      rw [q1]
    | _ =>
      have := h3 a.block _ hw (fun c e fz he => by cases he)
      rw [this]
theorem JgY {P : Program} {F : Orc} (hF : J3b P F) {f : FuncId} {args : List AV} {vals : Array Value} {w : World} (hl : args.length = vals.size)
    (hr : ∀ (i : Nat) x v, args[i]? = some x → vals[i]? = some v → Jj ⟨[], gh0 w, w⟩ x v) (h : F f args [] = some (.p (.b true), [])) :
    Calls P f vals w fun e w' => e = .returned (.bool true) ∧ J7h w w' := by
  refine ((hF _ _ _ _ h).2 (gh0 w) w vals (JmG w) hl hr).mono fun e w' ⟨v, g', he, _, ht, hrel⟩ => ?_
  cases hrel with
  | p _ _ hrel =>
    cases hrel with
    | b =>
      refine ⟨he, ?_⟩
      obtain ⟨k1, k2, k3, k4⟩ := ht.keep
      refine ⟨k1, fun r c e fz hr => ?_, k3, k4⟩
      obtain ⟨c', q1, q2, q3⟩ := k2 r c e fz hr
      exact ⟨c', q1, q2, fun o _ => q3 o (fun ⟨b, hb⟩ => Jc7 _ _ _ _ _ hb)⟩
section
variable {H : Type} {enc : TypeId × Value → H} {P : Program}
theorem J8K (hl : laidOutB P = true) (hm : mapsRowed P = true) (hsz : ∀ {t e : TypeId}, t < P.types.size → P.underlying t = some (.slice e) → 0 < P.cellsOf e) {W W' : World} {sp : Nat → Bool} :
    ∀ {ts : List TypeId} {vs : List Value} {ds : List (DataW H)} {ps : List MemPlace}, (∀ t ∈ ts, t < P.types.size) → DataW.TrodAll enc P W 0 (fun _ => true) true ts vs ds ps →
      (∀ p ∈ ps, W.sameAt W' p) → (∀ p ∈ ps, sp p.block = true) → DataW.TrodAll enc P W' 0 sp true ts vs ds ps
  | [], [], [], _, _, h, _, _ => h
  | [], _ :: _, _, _, _, h, _, _ => h.elim
  | [], [], _ :: _, _, _, h, _, _ => h.elim
  | _ :: _, [], _, _, _, h, _, _ => h.elim
  | _ :: _, _ :: _, [], _, _, h, _, _ => h.elim
  | t :: ts, v :: vs, d :: ds, _, hT, ⟨p, q, ⟨n, h1⟩, h2, rfl⟩, hs, hp => by
    refine ⟨p, q, ⟨n, DataW.trod_stays (kids_rows hl hm) hsz (fun h => by cases h) (hT t (by simp)) h1 (fun x hx => hs x (by simp [hx])) (fun x hx => hp x (by simp [hx]))⟩, ?_, rfl⟩
    exact J8K hl hm hsz (fun x hx => hT x (by simp [hx])) h2 (fun x hx => hs x (by simp [hx])) (fun x hx => hp x (by simp [hx]))
def J6j (P : Program) : Bool := (List.range P.types.size).all fun t => match P.underlying t with
  | some (.slice e) => decide (0 < P.cellsOf e)
  | _ => true
theorem Jef (h : J6j P = true) {t e : TypeId} (ht : t < P.types.size) (he : P.underlying t = some (.slice e)) : 0 < P.cellsOf e := by
  unfold J6j at h
  rw [List.all_eq_true] at h
  have := h t (by simpa using ht)
  rw [he] at this
  simpa using this
theorem Jis {fn : Func} {s : ChangeSpec} {tb : TypeId} (hl : laidOutB P = true) (hm : mapsRowed P = true) (hsz : J6j P = true) (hpar : ∀ t ∈ fn.params.toList, t < P.types.size)
    (hres : fn.resultTypes = #[tb]) (htb : P.underlying tb = some .bool) (hvars : s.vars = []) {apart fresh handsOn again : Bool} {W W' : World} {args : Array Value} {ds gs : List (DataW H)} {before : List MemPlace}
    (hfn : gs = [] → s.fn H (ds ++ gs) = { results := [.lit (.bool true)], args := ds })
    (hW : DataW.Whole enc P fn.params.toList s.vars apart W args.toList ds gs before) (hst : J7h W W') : s.post enc P fn apart fresh handsOn again W args (.bool true) W' := by
  have hW0 := hW
  have hlt := hW.lt
  obtain ⟨p, q, h1, h2, rfl, hz, hn⟩ := hW
  rw [hvars] at h2
  obtain ⟨rfl, rfl⟩ := trodVars_none h2
  rw [List.append_nil] at hW0 hlt hz hn
  have hf := hfn rfl
  have hargs : ∀ sp : Nat → Bool, (∀ x ∈ p, sp x.block = true) → DataW.TrodAll enc P W' 0 sp true fn.params.toList args.toList ds p := fun sp hp =>
    J8K hl hm (fun ht he => Jef hsz ht he) hpar h1 (fun x hx => hst.same (hlt x hx)) hp
  have hr : ∀ (b : Nat) (sp : Nat → Bool) (hd : Bool), DataW.TrodAll enc P W' b sp hd fn.resultTypes.toList ((Value.bool true).resultList fn.resultTypes.size) [.lit (.bool true)] [] := by
    intro b sp hd
    rw [hres]
    exact trodAll_cons_mk (shut_bool htb _) trodAll_mk0
  refine ⟨ds, [], p, [], p, [], hW0, ?_, ?_, ?_, hst.kept _, fun _ => ⟨?_, ?_⟩⟩
  · rw [hf]; exact hr _ _ _
  · rw [hf]; exact hargs _ (fun x hx => by simpa using hlt x hx)
  · rw [hf, hvars]; rfl
  · exact ok_one hres rfl (okWide_bool_mk htb _)
  · refine ⟨_, [], [] ++ p, ⟨[] ++ p, [], trodAll_append (hargs _ (fun _ _ => rfl)) (hr _ _ _), by rw [hvars]; rfl, by simp, fun b off hp => ?_, fun ha => by simpa using hn ha⟩, fun x hx _ => by simpa using hx⟩
    have hp' : MemPlace.cell b off ∈ p := by simpa using hp
    rw [hst.frozen (a := ⟨b, off, none⟩) (hlt _ hp')]
    exact hz b off hp'
def Jc6 (P : Program) (t : TypeId) (pvs : List PV) : AV := match P.underlying t with
  | some (.struct _) => .data pvs
  | some (.array _ _) => .data pvs
  | _ => match pvs with
    | [c] => .p c
    | _ => .unk
theorem JfL (hl : laidOutB P = true) (hm : mapsRowed P = true) {n : Nat} {t : TypeId} {w : World} {r : Reach} {base : Nat} {sp : Nat → Bool} {v : Value} {d : DataW H} {ps : List MemPlace} (hp : J5Z P n t = true)
    (hv : Value.okWide P w r base t v) (h : DataW.Trod enc P w 0 sp true t v d ps) : ∃ pvs, J5F P n t pvs ∧ Jj ⟨[], gh0 w, w⟩ (Jc6 P t pvs) v := by
  obtain ⟨fuel, h⟩ := h
  obtain ⟨pvs, q1, q2, q3⟩ := JjT hl hm n t _ _ fuel hp h
  refine ⟨pvs, q1, ?_⟩
  cases n with
  | zero => simp [J5Z] at hp
  | succ n =>
    unfold J5Z at hp
    unfold Value.okWide at hv
    unfold Jc6
    have one : ∀ {c : PV}, pvs = [c] → (∀ cs, v ≠ .agg cs) → Jj ⟨[], gh0 w, w⟩ (.p c) v := by
      intro c hc hne
      subst hc
      refine .p _ _ (q3 0 c v rfl ?_)
      cases v <;> first | rfl | exact absurd rfl (hne _)
    unfold J5F at q1
    split at hp
    · rename_i ht
      rw [ht] at q1 hv ⊢
      obtain ⟨b, rfl⟩ := q1
      exact one rfl (fun cs he => by subst he; simp [Cell.okWide, Cell.ok, ht] at hv)
    · rename_i k ht
      rw [ht] at q1 hv ⊢
      obtain ⟨z, rfl, _⟩ := q1
      exact one rfl (fun cs he => by subst he; simp [Cell.okWide, Cell.ok, ht] at hv)
    · rename_i ht
      rw [ht] at q1 hv ⊢
      obtain ⟨z, rfl, _⟩ := q1
      exact one rfl (fun cs he => by subst he; simp [Cell.okWide, Cell.ok, ht] at hv)
    · rename_i e ht
      rw [ht] at q1 hv ⊢
      obtain ⟨rows, rfl, _⟩ := q1
      exact one rfl (fun cs he => by subst he; simp [Cell.okWide, Cell.ok, ht] at hv)
    · rename_i fs ht
      rw [ht] at hv ⊢
      obtain ⟨cs, rfl, _⟩ := hv
      exact .data _ _ (by simpa [Value.cells] using q2) (fun i x v h1 h2 => q3 i x v h1 (by simpa [Value.cells] using h2))
    · rename_i m e ht
      rw [ht] at hv ⊢
      obtain ⟨cs, rfl, _⟩ := hv
      exact .data _ _ (by simpa [Value.cells] using q2) (fun i x v h1 h2 => q3 i x v h1 (by simpa [Value.cells] using h2))
    · cases hp
end
end Go.Am
end
