/-
  Parts of a proof.
-/
import Derived.ChangeArms
import Derived.OpenShut
import Derived.ChangeBears
import Derived.ChangeStays
import Derived.Handed
import Derived.RowKit3
import Derived.WalkKit
import Derived.ProofKit
import Derived.Test.YtiallbcnaadmoaaM4
import Derived.Test.YtiallbcnaadmoaaM11
set_option linter.unusedSimpArgs false
set_option linter.unusedVariables false
section
namespace Go.Am
set_option maxRecDepth 16000
def Tot {ρ : Type} (o : Option ρ) (Q : ρ → Prop) : Prop := ∃ r, o = some r ∧ Q r
theorem Tot.bind {α ρ : Type} {o : Option α} {f : α → Option ρ} {Q : α → Prop} {R : ρ → Prop} (h : Tot o Q) (h2 : ∀ r, Q r → Tot (f r) R) : Tot (o.bind f) R := by
 obtain ⟨r, rfl, hq⟩ := h
 exact h2 r hq
theorem Tot.some {ρ : Type} {r : ρ} {Q : ρ → Prop} (h : Q r) : Tot (some r) Q := ⟨r, rfl, h⟩
theorem Tot.eq {α ρ : Type} {o : Option α} {f : α → Option ρ} {v : α} {R : ρ → Prop} (h : o = Option.some v) (h2 : Tot (f v) R) : Tot (o.bind f) R := by
 subst h; exact h2
theorem Tot.ite {ρ : Type} {c : Bool} {a b : Option ρ} {Q : ρ → Prop} (h1 : c = true → Tot a Q) (h2 : c = false → Tot b Q) : Tot (if c = true then a else b) Q := by
 cases c with
 | true => exact h1 rfl
 | false => exact h2 rfl
theorem Tot.both {ρ : Type} {c : Bool} {a b : Option ρ} {Q : ρ → Prop} (h1 : Tot a Q) (h2 : Tot b Q) : Tot (if c = true then a else b) Q := .ite (fun _ => h1) fun _ => h2
theorem Tot.mono {ρ : Type} {o : Option ρ} {Q R : ρ → Prop} (h : Tot o Q) (h2 : ∀ r, Q r → R r) : Tot o R := by
 obtain ⟨r, e, hq⟩ := h
 exact ⟨r, e, h2 r hq⟩
theorem Tot.map {α ρ : Type} {o : Option α} {f : α → ρ} {Q : α → Prop} {R : ρ → Prop} (h : Tot o Q) (h2 : ∀ r, Q r → R (f r)) : Tot (Option.map f o) R := by
 obtain ⟨r, rfl, hq⟩ := h
 exact ⟨f r, rfl, h2 r hq⟩
abbrev Drw {α : Type} (o : Option (α × T_pagemenddraw_Codes)) (Q : α → Prop) : Prop := Tot o fun r => J1o r.2 ∧ Q r.1
section
variable {b : T_pagemenddraw_Codes} (hb : J1o b)
include hb
theorem Jdb {n : Int} (h1 : 1 ≤ n) (h2 : n ≤ 256) : Drw (JI b n) fun r => 0 ≤ r ∧ r < n := by
 obtain ⟨r, b', e, h3, h4, h5⟩ := J50 hb h1 h2
 exact ⟨_, e, h3, h4, h5⟩
end
end Go.Am
end
section
namespace Go.Am
set_option maxRecDepth 16000
set_option linter.unusedSimpArgs false
set_option linter.unusedVariables false
noncomputable def idn (s : List UInt8) (k : Int) : T_api_Page × Int := Classical.choose (Jfk s k)
theorem Ja2 (s : List UInt8) (k : Int) : J0v s k = some (idn s k) := Classical.choose_spec (Jfk s k)
theorem JfJ (s : List UInt8) (k : Int) : J1H s k = some (idn s k) := by rw [Jm8, Ja2]
theorem JqT (k : Int) : J16 k = some (decide (0 ≤ k) && decide (k < 64)) := by
 unfold J16
 by_cases h : k ≥ 0 <;> by_cases h2 : k < 64 <;> simp [h, h2]
 all_goals omega
theorem Jk5 {s : List UInt8} {k : Int} (h : (idn s k).2 = 0) : 0 ≤ k ∧ k < 64 ∧ s.length = 256 := by
 have e := Ja2 s k
 unfold J0v at e
 rw [JqT, Option.bind_some] at e
 by_cases hk : 0 ≤ k ∧ k < 64
 ·refine ⟨hk.1, hk.2, ?_⟩
  obtain ⟨r, hr⟩ := Jdd s
  rw [if_pos (by simp [hk]), hr, Option.bind_some] at e
  by_cases hl : s.length = 256
  ·exact hl
  ·unfold J0L at hr
   rw [if_pos (by simp; omega)] at hr
   injection hr with hr
   subst hr
   simp at e
   rw [← e] at h
   cases h
 ·rw [if_neg (by simp; omega)] at e
  injection e with e
  rw [← e] at h
  cases h
noncomputable def J8s (n : Int) (c : T_api_Copy) : Bool := decide (c.Page < n) && ((idn c.Data c.Page).2 == 0 && (idn c.Data c.Page).1.LSN == c.LSN)
def JeV (l : List T_api_Copy) (k : Nat) : Bool := k == 0 || match l[k - 1]?, l[k]? with
 | some a, some b => decide (a.Page < b.Page)
 | _, _ => true
noncomputable def J8C (n : Int) (l : List T_api_Copy) : Bool := (List.range l.length).all fun k => JeV l k && match l[k]? with
 | some c => J8s n c
 | none => true
noncomputable def J8Q (x : T_api_Image) : Bool := decide (1 ≤ x.ID) && (decide (x.ID ≤ 1073741824) && (decide (1 ≤ x.Pages) && (decide (x.Pages ≤ 64) && J8C x.Pages x.Copies)))
theorem Jdj {ρ : Type} {f : Int → Option (Int ⊕ ρ)} {n : Nat} (q : Nat → Bool) (bad out : ρ) (hl : n < 1000000)
  (h1 : ∀ (k : Nat), k < n → f (k : Int) = some (if q k = true then .inl ((k + 1 : Nat) : Int) else .inr bad)) (h2 : f (n : Int) = some (.inr out)) :
  Ju f 0 = some (if (List.range n).all q = true then out else bad) := by
 have := Jrb (f := f) (l := List.range n) q bad out (by simpa using hl) (fun k h => by
  simp only [List.length_range] at h
  rw [h1 k h, List.getElem_range]) (by simpa using h2)
 exact this
theorem Jgw (a n : Int) (l : List T_api_Copy) (k : Nat) (hk : k < l.length) (hl : l.length < 1000000) :
  J35 (l.length : Int) ⟨a, n, l⟩ (k : Int) = some (if (JeV l k && match l[k]? with
   | some c => J8s n c
   | none => true) = true then .inl ((k + 1 : Nat) : Int) else .inr false) := by
 have e1 : idx l (k : Int) = some l[k] := by rw [J52, List.getElem?_eq_getElem hk]
 unfold J35
 rw [if_pos (by simp; omega)]
 simp only [e1, Option.bind_some, Ja2, List.getElem?_eq_getElem hk, J8s, JeV]
 have e3 : IntKind.wrap .i64 ((k : Int) + 1) = ((k + 1 : Nat) : Int) := by rw [wrap64 (by omega) (by omega)]; omega
 rw [e3]
 by_cases hp : l[k].Page ≥ n
 ·simp [hp, show ¬ l[k].Page < n by omega]
 ·by_cases h0 : k = 0
  ·subst h0
   simp only [hp, show l[0].Page < n by omega, decide_true, decide_false, Bool.false_eq_true, if_false, Bool.true_and]
   simp only [Int.natCast_zero, gt_iff_lt, Int.lt_irrefl, decide_false, Bool.false_eq_true, if_false, beq_self_eq_true, Bool.true_or, Bool.true_and]
   cases h5 : ((idn l[0].Data l[0].Page).2 == 0) <;> cases h6 : ((idn l[0].Data l[0].Page).1.LSN == l[0].LSN) <;> simp [bne, h5, h6]
  ·have e2 : idx l (IntKind.wrap .i64 ((k : Int) - 1)) = some l[k - 1] := by
    rw [wrap64 (by omega) (by omega), show (k : Int) - 1 = ((k - 1 : Nat) : Int) by omega, J52, List.getElem?_eq_getElem (by omega)]
   simp only [e2, Option.bind_some, List.getElem?_eq_getElem (show k - 1 < l.length by omega)]
   simp only [hp, show l[k].Page < n by omega, decide_true, decide_false, Bool.false_eq_true, if_false, Bool.true_and, show (k : Int) > 0 by omega, if_true, show (k == 0) = false by simpa using h0, Bool.false_or]
   by_cases h7 : l[k - 1].Page ≥ l[k].Page
   ·simp [h7, show ¬ l[k - 1].Page < l[k].Page by omega]
   ·simp only [h7, show l[k - 1].Page < l[k].Page by omega, decide_true, decide_false, Bool.false_eq_true, if_false, Bool.true_and]
    cases h5 : ((idn l[k].Data l[k].Page).2 == 0) <;> cases h6 : ((idn l[k].Data l[k].Page).1.LSN == l[k].LSN) <;> simp [bne, h5, h6]
theorem J8e {n : Int} {c : T_api_Copy} (h : J8s n c = true) : 0 ≤ c.Page ∧ c.Page < 64 ∧ c.Page < n ∧ (idn c.Data c.Page).2 = 0 ∧ (idn c.Data c.Page).1.LSN = c.LSN := by
 simp only [J8s, Bool.and_eq_true, decide_eq_true_eq, beq_iff_eq] at h
 have := Jk5 h.2.1
 exact ⟨this.1, this.2.1, h.1, h.2.1, h.2.2⟩
theorem JmI (a n : Int) (l : List T_api_Copy) (k : Nat) (hk : k < l.length) (hl : l.length < 1000000) :
  J37 ⟨a, n, l⟩ (k : Int) = some (if (JeV l k && match l[k]? with
   | some c => J8s n c
   | none => true) = true then .inl ((k + 1 : Nat) : Int) else .inr false) := by
 have e1 : idx l (k : Int) = some l[k] := by rw [J52, List.getElem?_eq_getElem hk]
 by_cases hneg : l[k].Page < 0
 ·have hf : J8s n l[k] = false := by
   cases hc : J8s n l[k] with
   | false => rfl
   | true => have := J8e hc; omega
  unfold J37
  rw [if_pos (by simp; omega)]
  simp only [e1, Option.bind_some, List.getElem?_eq_getElem hk, hf, hneg, decide_true, if_true, Bool.and_false, Bool.false_eq_true, if_false]
 ·rw [← Jgw a n l k hk hl]
  unfold J37 J35
  simp only [e1, Option.bind_some, hneg, decide_false, Bool.false_eq_true, if_false, JfJ, Ja2]
  rfl
theorem Jfn (b : Bool) : (if b = true then true else false) = b := by cases b <;> rfl
theorem JgZ (a n : Int) (l : List T_api_Copy) (hl : l.length < 1000000) : J87 (l.length : Int) ⟨a, n, l⟩ 0 = some (J8C n l) := by
 unfold J87
 rw [Jdj (n := l.length) (fun k => JeV l k && match l[k]? with
   | some c => J8s n c
   | none => true) false true hl (fun k h => Jgw a n l k h hl) (by
  unfold J35
  rw [if_neg (by simp)]
  rfl)]
 rw [Jfn]
 rfl
theorem Jj4 (a n : Int) (l : List T_api_Copy) (hl : l.length < 1000000) : J85 ⟨a, n, l⟩ 0 = some (J8C n l) := by
 unfold J85
 rw [Jdj (n := l.length) (fun k => JeV l k && match l[k]? with
   | some c => J8s n c
   | none => true) false true hl (fun k h => JmI a n l k h hl) (by
  unfold J37
  rw [if_neg (by simp)]
  rfl)]
 rw [Jfn]
 rfl
theorem JaA {n : Int} {l : List T_api_Copy} : J8C n l = true ↔ (∀ c ∈ l, J8s n c = true) ∧ ∀ (k : Nat) (h : k + 1 < l.length), l[k].Page < l[k + 1].Page := by
 unfold J8C
 simp only [List.all_eq_true, List.mem_range, Bool.and_eq_true]
 constructor
 ·intro h
  refine ⟨fun c hc => ?_, fun k hk => ?_⟩
  ·obtain ⟨k, hk⟩ := List.getElem?_of_mem hc
   have hlt : k < l.length := by
    rcases Nat.lt_or_ge k l.length with h' | h'
    ·exact h'
    ·simp [List.getElem?_eq_none h'] at hk
   have := (h k hlt).2
   rw [hk] at this
   exact this
  ·have := (h (k + 1) hk).1
   simp only [JeV, Nat.add_sub_cancel, List.getElem?_eq_getElem hk, List.getElem?_eq_getElem (show k < l.length by omega)] at this
   simpa using this
 ·rintro ⟨h1, h2⟩ k hk
  refine ⟨?_, ?_⟩
  ·unfold JeV
   by_cases h0 : k = 0
   ·simp [h0]
   ·obtain ⟨j, rfl⟩ : ∃ j, k = j + 1 := ⟨k - 1, by omega⟩
    simp only [Nat.add_sub_cancel, List.getElem?_eq_getElem hk, List.getElem?_eq_getElem (show j < l.length by omega)]
    simpa using h2 j hk
  ·rw [List.getElem?_eq_getElem hk]
   exact h1 _ (List.getElem_mem hk)
theorem Jqo {n : Int} {l : List T_api_Copy} (h : J8C n l = true) : ∀ (k : Nat) (hk : k < l.length), (k : Int) ≤ l[k].Page := by
 obtain ⟨h1, h2⟩ := JaA.1 h
 intro k
 induction k with
 | zero => intro hk; have := (J8e (h1 _ (List.getElem_mem hk))).1; omega
 | succ k ih => intro hk; have := ih (by omega); have := h2 k hk; omega
theorem Jio {n : Int} {l : List T_api_Copy} (h : J8C n l = true) (hn : 0 ≤ n) : (l.length : Int) ≤ n := by
 by_cases h0 : l.length = 0
 ·omega
 ·have h1 := Jqo h (l.length - 1) (by omega)
  have h2 := (J8e ((JaA.1 h).1 _ (List.getElem_mem (show l.length - 1 < l.length by omega)))).2.2.1
  omega
theorem J3e (x : T_api_Image) (hl : x.Copies.length < 1000000) : J12 x = some (J8Q x) := by
 obtain ⟨a, n, l⟩ := x
 unfold J12 J8Q
 dsimp only at hl ⊢
 by_cases h1 : a < 1
 ·simp [h1, show ¬ 1 ≤ a by omega]
 by_cases h2 : a > 1073741824
 ·simp [h1, h2, show ¬ a ≤ 1073741824 by omega]
 by_cases h3 : n < 1
 ·simp [h1, h2, h3, show ¬ 1 ≤ n by omega]
 by_cases h4 : n > 64
 ·simp [h1, h2, h3, h4, show ¬ n ≤ 64 by omega]
 by_cases h5 : (l.length : Int) > n
 ·have : J8C n l = false := by
   cases hc : J8C n l with
   | false => rfl
   | true => have := Jio hc (by omega); omega
  simp [h1, h2, h3, h4, h5, this]
 ·simp only [h1, h2, h3, h4, h5, decide_false, Bool.false_eq_true, if_false, JgZ a n l hl]
  simp [show 1 ≤ a by omega, show a ≤ 1073741824 by omega, show 1 ≤ n by omega, show n ≤ 64 by omega]
theorem JaD (x : T_api_Image) (hl : x.Copies.length < 1000000) : J5b x = some (J8Q x) := by
 obtain ⟨a, n, l⟩ := x
 unfold J5b J8Q
 dsimp only at hl ⊢
 by_cases h1 : a < 1
 ·simp [h1, show ¬ 1 ≤ a by omega]
 by_cases h2 : a > 1073741824
 ·simp [h1, h2, show ¬ a ≤ 1073741824 by omega]
 by_cases h3 : n < 1
 ·simp [h1, h2, h3, show ¬ 1 ≤ n by omega]
 by_cases h4 : n > 64
 ·simp [h1, h2, h3, h4, show ¬ n ≤ 64 by omega]
 ·simp only [h1, h2, h3, h4, decide_false, Bool.false_eq_true, if_false, Jj4 a n l hl]
  simp [show 1 ≤ a by omega, show a ≤ 1073741824 by omega, show 1 ≤ n by omega, show n ≤ 64 by omega]
structure J2B (x : T_api_Image) : Prop where
 id1 : 1 ≤ x.ID
 id2 : x.ID ≤ 1073741824
 p1 : 1 ≤ x.Pages
 p2 : x.Pages ≤ 64
 copies : ∀ c ∈ x.Copies, J8s x.Pages c = true
 asc : ∀ (k : Nat) (h : k + 1 < x.Copies.length), x.Copies[k].Page < x.Copies[k + 1].Page
theorem J2W {x : T_api_Image} : J8Q x = true ↔ J2B x := by
 unfold J8Q
 simp only [Bool.and_eq_true, decide_eq_true_eq, JaA]
 exact ⟨fun ⟨a, b, c, d, e, f⟩ => ⟨a, b, c, d, e, f⟩, fun h => ⟨h.1, h.2, h.3, h.4, h.5, h.6⟩⟩
theorem J2B.len {x : T_api_Image} (h : J2B x) : (x.Copies.length : Int) ≤ x.Pages := Jio (JaA.2 ⟨h.copies, h.asc⟩) (by have := h.p1; omega)
end Go.Am
end
section
namespace Go.Am
set_option maxRecDepth 16000
set_option linter.unusedSimpArgs false
set_option linter.unusedVariables false
theorem Jvi (x : Nat) : J7V .u64 (x : Int) 1 = some ((x / 2 : Nat) : Int) := by
 show some ((x : Int).fdiv 2) = _
 rw [Int.fdiv_eq_ediv_of_nonneg _ (by omega)]; simp
def Asc (l : List T_api_Copy) : Prop := ∀ (i j : Nat) (h : j < l.length) (hij : i < j), l[i].Page < l[j].Page
theorem Jue {l : List T_api_Copy} (h : ∀ (k : Nat) (h : k + 1 < l.length), l[k].Page < l[k + 1].Page) : Asc l := by
 intro i j hj hij
 induction j with
 | zero => omega
 | succ j ih =>
  rcases Nat.lt_or_ge i j with h1 | h1
  ·have := ih (by omega) h1
   have := h j hj
   omega
  ·obtain rfl : i = j := by omega
   exact h i hj
theorem J2B.ord {x : T_api_Image} (h : J2B x) : Asc x.Copies := Jue h.asc
theorem J2B.page {x : T_api_Image} (h : J2B x) {k : Nat} (hk : k < x.Copies.length) : 0 ≤ x.Copies[k].Page ∧ x.Copies[k].Page < 64 := by
 have := J8e (h.copies _ (List.getElem_mem hk)); omega
def Cut (l : List T_api_Copy) (id : Int) (k : Nat) : Prop := k ≤ l.length ∧ (∀ (j : Nat) (h : j < l.length), j < k → l[j].Page < id) ∧ ∀ (j : Nat) (h : j < l.length), k ≤ j → id ≤ l[j].Page
def J4V (l : List T_api_Copy) (id : Int) (k : Nat) : Bool := match l[k]? with
 | some c => c.Page == id
 | none => false
theorem Jk6 (c : T_api_Copy) {id : Int} (h : 0 ≤ c.Page ∧ c.Page < 64) (h0 : 0 ≤ id) (h1 : id < 64) : J2J c id = some (c.Page - id) := by
 unfold J2J; rw [wrap64 (by omega) (by omega)]
theorem JeQ {x : T_api_Image} (hx : J2B x) {id : Int} (h0 : 0 ≤ id) (h1 : id < 64) : ∃ k, Cut x.Copies id k ∧ J4k x id = some ((k : Int), J4V x.Copies id k) := by
 obtain ⟨a, n, l⟩ := x
 have hl : l.length ≤ 64 := by have := hx.len; have := hx.p2; simp at *; omega
 have ho : Asc l := hx.ord
 have hp : ∀ (k : Nat) (hk : k < l.length), 0 ≤ l[k].Page ∧ l[k].Page < 64 := fun k hk => hx.page hk
 have key : ∃ r, JY l id (l.length : Int) (0, (l.length : Int)) = some r ∧ ∃ k, Cut l id k ∧ r = ((k : Int), J4V l id k) := by
  unfold JY
  refine J0P (fun s : Int × Int => ∃ i j : Nat, s = ((i : Int), (j : Int)) ∧ i ≤ j ∧ j ≤ l.length ∧ (∀ (t : Nat) (h : t < l.length), t < i → l[t].Page < id) ∧ ∀ (t : Nat) (h : t < l.length), j ≤ t → id ≤ l[t].Page)
   (fun s => (s.2 - s.1).toNat) _ ?_ _ ⟨0, l.length, rfl, by omega, by omega, fun t _ ht => by omega, fun t h ht => by omega⟩
  rintro s ⟨i, j, rfl, hij, hj, hA, hB⟩
  dsimp only
  unfold JJ
  by_cases hlt : i < j
  ·left
   have e1 : J7V .u64 (IntKind.wrap .u64 (IntKind.wrap .i64 ((i : Int) + (j : Int)))) 1 = some (((i + j) / 2 : Nat) : Int) := by
    rw [wrap64 (by omega) (by omega), J7H (by omega) (by omega), show (i : Int) + (j : Int) = ((i + j : Nat) : Int) by omega, Jvi]
   have hm : (i + j) / 2 < l.length := by omega
   have e2 : IntKind.wrap .i64 (((i + j) / 2 : Nat) : Int) = (((i + j) / 2 : Nat) : Int) := wrap64 (by omega) (by omega)
   rw [if_pos (by simp; omega), e1, Option.bind_some, e2, J52, List.getElem?_eq_getElem hm, Option.bind_some, Jk6 _ (hp _ hm) h0 h1, Option.bind_some]
   by_cases hc : l[(i + j) / 2].Page < id
   ·rw [if_pos (by simp; omega)]
    refine ⟨_, rfl, ⟨(i + j) / 2 + 1, j, ?_, by omega, hj, fun t ht h2 => ?_, hB⟩, ?_⟩
    ·rw [wrap64 (by omega) (by omega)]; congr 1
    ·rcases Nat.lt_or_ge t ((i + j) / 2) with h3 | h3
     ·have := ho t _ hm h3; omega
     ·obtain rfl : t = (i + j) / 2 := by omega
      exact hc
    ·dsimp only; rw [wrap64 (by omega) (by omega)]; omega
   ·rw [if_neg (by simp; omega)]
    refine ⟨_, rfl, ⟨i, (i + j) / 2, rfl, by omega, by omega, hA, fun t ht h2 => ?_⟩, ?_⟩
    ·rcases Nat.eq_or_lt_of_le h2 with h3 | h3
     ·subst h3; omega
     ·have := ho _ t ht h3; omega
    ·dsimp only; omega
  ·right
   obtain rfl : i = j := by omega
   rw [if_neg (by simp)]
   refine ⟨((i : Int), J4V l id i), ?_, i, ⟨hj, hA, hB⟩, rfl⟩
   unfold JZ
   by_cases hi : i < l.length
   ·rw [if_pos (by simp; omega), J52, List.getElem?_eq_getElem hi, Option.bind_some, Jk6 _ (hp _ hi) h0 h1, Option.bind_some]
    simp only [J4V, List.getElem?_eq_getElem hi, Option.map_some]
    congr 3
    rw [Bool.eq_iff_iff]; simp; omega
   ·rw [if_neg (by simp; omega)]
    simp [J4V, List.getElem?_eq_none (show l.length ≤ i by omega)]
 obtain ⟨r, hr, k, hk, rfl⟩ := key
 refine ⟨k, hk, ?_⟩
 unfold J4k JN
 dsimp only
 rw [hr]
 rfl
def Jb2 (l : List T_api_Copy) (c : T_api_Copy) (k : Nat) : List T_api_Copy := l.take k ++ c :: l.drop (if J4V l c.Page k then k + 1 else k)
theorem JlP {l : List T_api_Copy} (h : l.length ≤ 1000) : J1l l = some l := by
 unfold J1l; rw [if_pos (by omega)]
theorem JjX {x : T_api_Image} (hx : J2B x) {id : Int} {s : List UInt8} (h0 : 0 ≤ id) (h1 : id < x.Pages) (hs : (idn s id).2 = 0) {k : Nat} (hk : Cut x.Copies id k) :
  J0Q x id s = some (⟨x.ID, x.Pages, Jb2 x.Copies ⟨id, (idn s id).1.LSN, s⟩ k⟩, 0) := by
 have hl : x.Copies.length ≤ 64 := by have := hx.len; have := hx.p2; omega
 have h64 : id < 64 := by have := hx.p2; omega
 unfold J0Q
 rw [J3e x (by omega), J2W.2 hx, Option.bind_some, if_pos rfl, if_neg (by simp; omega), if_neg (by simp; omega), Ja2, Option.bind_some, if_neg (by simp [hs])]
 obtain ⟨k', hk', e⟩ := JeQ hx h0 h64
 have hkk : k' = k := by
  rcases Nat.lt_trichotomy k' k with h | h | h
  ·have a := hk.2.1 k' (by have := hk.1; omega) h
   have b := hk'.2.2 k' (by have := hk.1; omega) (Nat.le_refl _)
   omega
  ·exact h
  ·have a := hk'.2.1 k (by have := hk'.1; omega) h
   have b := hk.2.2 k (by have := hk'.1; omega) (Nat.le_refl _)
   omega
 subst hkk
 rw [e, Option.bind_some, JlP (by omega), Option.bind_some]
 dsimp only
 unfold Jb2
 by_cases ht : J4V x.Copies id k' = true
 ·have hlt : k' < x.Copies.length := by
   rcases Nat.lt_or_ge k' x.Copies.length with h | h
   ·exact h
   ·simp [J4V, List.getElem?_eq_none h] at ht
  rw [if_pos ht]
  dsimp only
  rw [if_pos ht]
  unfold J5Y
  rw [J52, List.getElem?_eq_getElem hlt, Option.bind_some, Option.bind_some, Int.toNat_natCast, List.set_eq_take_append_cons_drop, if_pos hlt]
 ·rw [if_neg ht]
  dsimp only
  rw [if_neg ht]
  have hk2 := hk'.1
  have e2 : J1b x.Copies (k' : Int) [⟨0, 0, []⟩] = some (x.Copies.take k' ++ ⟨0, 0, []⟩ :: x.Copies.drop k') := by
   unfold J1b JeU
   dsimp only
   rw [if_pos ⟨by omega, by omega, by simp [J5P]; omega⟩, Int.toNat_natCast]
  have e3 : (x.Copies.take k').length = k' := by simp; omega
  rw [e2, Option.bind_some]
  unfold J5Y
  have e4 : idx (x.Copies.take k' ++ (⟨0, 0, []⟩ : T_api_Copy) :: x.Copies.drop k') (k' : Int) = some ⟨0, 0, []⟩ := by
   rw [J52, List.getElem?_append_right (by omega), e3, Nat.sub_self]; rfl
  rw [e4, Option.bind_some, Option.bind_some, Int.toNat_natCast, List.set_append_right _ _ (by omega), e3, Nat.sub_self]
  rfl
end Go.Am
end
section
namespace Go.Am
set_option maxRecDepth 16000
set_option linter.unusedSimpArgs false
set_option linter.unusedVariables false
theorem J7g {l : List T_api_Copy} {id : Int} {k : Nat} : J4V l id k = true ↔ ∃ h : k < l.length, l[k].Page = id := by
 unfold J4V
 rcases Nat.lt_or_ge k l.length with h | h
 ·simp [List.getElem?_eq_getElem h, h]
 ·simp [List.getElem?_eq_none h]; omega
theorem JbT {l : List T_api_Copy} {c : T_api_Copy} (h : l.length ≤ 1000) : JcB 32 l [c] = some (l ++ [c]) := by
 have e : J5P (l.length + [c].length) 32 = true := by
  simp only [J5P, List.length_cons, List.length_nil]
  simp; omega
 unfold JcB
 rw [if_pos e]
theorem Jju {α : Type} {l : List α} {k' j : Nat} (h : j < l.length) (h2 : k' ≤ j) : (l.drop k').take (j - k') ++ [l[j]] = (l.drop k').take (j + 1 - k') := by
 rw [show j + 1 - k' = (j - k') + 1 by omega, List.take_add_one, List.getElem?_drop, show k' + (j - k') = j by omega, List.getElem?_eq_getElem h]
 rfl
theorem Jo6 {x : T_api_Image} (hx : J2B x) {id : Int} {s : List UInt8} (h0 : 0 ≤ id) (h1 : id < x.Pages) (hs : (idn s id).2 = 0) {k : Nat} (hk : Cut x.Copies id k) :
  J2r x id s = some (⟨x.ID, x.Pages, Jb2 x.Copies ⟨id, (idn s id).1.LSN, s⟩ k⟩, 0) := by
 have hl : x.Copies.length ≤ 64 := by have := hx.len; have := hx.p2; omega
 have h64 : id < 64 := by have := hx.p2; omega
 have ho := hx.ord
 unfold J2r
 rw [JaD x (by omega), J2W.2 hx, Option.bind_some, if_pos rfl, if_neg (by simp; omega), if_neg (by simp; omega), JfJ, Option.bind_some, if_neg (by simp [hs])]
 generalize hc : (⟨id, (idn s id).1.LSN, s⟩ : T_api_Copy) = c
 have hcp : c.Page = id := by rw [← hc]
 obtain ⟨a, n, l⟩ := x
 dsimp only at *
 obtain ⟨k', hk'⟩ : ∃ k', k' = if J4V l id k then k + 1 else k := ⟨_, rfl⟩
 have hkk : k ≤ k' ∧ k' ≤ k + 1 := by rw [hk']; split <;> omega
 have hput : Jb2 l c k = l.take k ++ c :: l.drop k' := by unfold Jb2; rw [hcp, hk']
 obtain ⟨r, hr, rfl⟩ : ∃ r, J9e id ⟨a, n, l⟩ [] 0 0 c a n (false, 0, []) = some r ∧ r = (⟨a, n, Jb2 l c k⟩, 0) := by
  unfold J9e
  refine J0P (fun s : Bool × Int × List T_api_Copy => ∃ j : Nat, j ≤ l.length ∧ s = (decide (k < j), (j : Int), if k < j then l.take k ++ c :: (l.drop k').take (j - k') else l.take j)) (fun s => (l.length - s.2.1).toNat) _ ?_ _ ⟨0, by omega, by simp⟩
  rintro _ ⟨j, hj, rfl⟩
  dsimp only
  unfold J7u
  dsimp only
  rcases Nat.lt_or_ge j l.length with hlt | hge
  ·left
   have e3 : IntKind.wrap .i64 ((j : Int) + 1) = ((j + 1 : Nat) : Int) := by rw [wrap64 (by omega) (by omega)]; omega
   have ei : idx l (j : Int) = some l[j] := by rw [J52, List.getElem?_eq_getElem hlt]
   rw [if_pos (by simp; omega)]
   rcases Nat.lt_trichotomy j k with h | h | h
   ·
    have hpg := hk.2.1 j hlt h
    refine ⟨(decide (k < j + 1), ((j + 1 : Nat) : Int), if k < j + 1 then l.take k ++ c :: (l.drop k').take (j + 1 - k') else l.take (j + 1)), ?_, ⟨j + 1, by omega, rfl⟩, by dsimp only; omega⟩
    rw [show decide (k < j) = false by simp; omega, if_neg (show ¬ k < j by omega), show decide (k < j + 1) = false by simp; omega, if_neg (show ¬ k < j + 1 by omega)]
    simp only [Bool.false_eq_true, if_false, ei, Option.bind_some]
    rw [if_neg (by simp; omega)]
    unfold J4j
    simp only [ei, Option.bind_some]
    rw [if_pos (by simp; omega), JbT (by simp; omega), Option.bind_some]
    unfold J4q
    rw [e3, List.take_add_one, List.getElem?_eq_getElem hlt]
    rfl
   ·
    subst h
    have hpg := hk.2.2 j hlt (Nat.le_refl _)
    refine ⟨(decide (j < j + 1), ((j + 1 : Nat) : Int), if j < j + 1 then l.take j ++ c :: (l.drop k').take (j + 1 - k') else l.take (j + 1)), ?_, ⟨j + 1, by omega, rfl⟩, by dsimp only; omega⟩
    rw [show decide (j < j) = false by simp, if_neg (show ¬ j < j by omega), show decide (j < j + 1) = true by simp, if_pos (show j < j + 1 by omega)]
    simp only [Bool.false_eq_true, if_false, ei, Option.bind_some]
    rw [if_pos (by simp; omega), JbT (by simp; omega), Option.bind_some]
    unfold J4j
    simp only [ei, Option.bind_some]
    by_cases hp : l[j].Page = id
    ·have : k' = j + 1 := by rw [hk', if_pos (J7g.2 ⟨hlt, hp⟩)]
     subst this
     rw [if_neg (by simp [hp])]
     unfold J4q
     rw [e3, Nat.sub_self]
     rfl
    ·have : k' = j := by rw [hk', if_neg (fun h => hp (J7g.1 h).2)]
     subst this
     rw [if_pos (by simp [hp]), JbT (by simp; omega), Option.bind_some]
     unfold J4q
     rw [e3, show k' + 1 - k' = 0 + 1 by omega, List.take_add_one, List.getElem?_drop, show k' + 0 = k' from rfl, List.getElem?_eq_getElem hlt]
     simp
   ·
    have hpg := hk.2.2 k (by omega) (Nat.le_refl _)
    have hpj := ho k j hlt h
    refine ⟨(decide (k < j + 1), ((j + 1 : Nat) : Int), if k < j + 1 then l.take k ++ c :: (l.drop k').take (j + 1 - k') else l.take (j + 1)), ?_, ⟨j + 1, by omega, rfl⟩, by dsimp only; omega⟩
    rw [show decide (k < j) = true by simp; omega, if_pos h, show decide (k < j + 1) = true by simp; omega, if_pos (show k < j + 1 by omega)]
    simp only [if_true]
    unfold J4j
    simp only [ei, Option.bind_some]
    rw [if_pos (by simp; omega), JbT (by simp; omega), Option.bind_some]
    unfold J4q
    rw [e3, List.append_assoc, List.cons_append, Jju hlt (by omega)]
  ·right
   obtain rfl : j = l.length := by omega
   rw [if_neg (by simp), hput]
   unfold J9i
   by_cases hkl : k < l.length
   ·rw [show decide (k < l.length) = true by simpa using hkl, if_pos hkl]
    rw [if_pos rfl]
    refine ⟨_, rfl, ?_⟩
    rw [List.take_of_length_le (l := l.drop k') (by rw [List.length_drop]; omega)]
   ·have hkl2 : k = l.length := by have := hk.1; omega
    rw [show decide (k < l.length) = false by simpa using hkl, if_neg hkl]
    rw [if_neg (by decide), JbT (by simp; omega), Option.bind_some]
    refine ⟨_, rfl, ?_⟩
    rw [hkl2, List.drop_eq_nil_of_le (by omega)]
 exact hr
theorem Jqb {x : T_api_Image} (hx : J2B x) {id : Int} (h0 : 0 ≤ id) (h1 : id < 64) : ∃ k, Cut x.Copies id k := by
 obtain ⟨k, hk, _⟩ := JeQ hx h0 h1
 exact ⟨k, hk⟩
theorem Jhp {x : T_api_Image} (hl : x.Copies.length < 1000000) (id : Int) (s : List UInt8) : J2r x id s = J0Q x id s := by
 by_cases hx : J2B x
 ·by_cases hr : 0 ≤ id ∧ id < x.Pages
  ·by_cases hs : (idn s id).2 = 0
   ·obtain ⟨k, hk⟩ := Jqb hx hr.1 (by have := hx.p2; omega)
    rw [Jo6 hx hr.1 hr.2 hs hk, JjX hx hr.1 hr.2 hs hk]
   ·unfold J2r J0Q
    rw [JaD x hl, J3e x hl]
    simp only [Option.bind_some, JfJ, Ja2, show ((idn s id).2 != 0) = true by simpa using hs, if_true]
  ·unfold J2r J0Q
   rw [JaD x hl, J3e x hl]
   simp only [Option.bind_some, JfJ, Ja2]
   by_cases hneg : id < 0
   ·simp [hneg]
   ·simp [hneg, show id ≥ x.Pages by omega]
 ·unfold J2r J0Q
  rw [JaD x hl, J3e x hl]
  have : J8Q x = false := by
   cases h : J8Q x with
   | false => rfl
   | true => exact absurd (J2W.1 h) hx
  simp [this]
def JcN : T_api_Copy := ⟨0, 0, []⟩
def J8F (l : List T_api_Copy) (id : Int) : T_api_Copy × Bool := match l.find? (fun c => c.Page == id) with
 | some c => (c, true)
 | none => (JcN, false)
theorem Jtr {l : List T_api_Copy} (ho : Asc l) {id : Int} {k : Nat} (hk : Cut l id k) : J8F l id = if J4V l id k then (l[k]?.getD JcN, true) else (JcN, false) := by
 unfold J8F
 split
 ·rename_i c hc
  have h1 := List.find?_some hc
  obtain ⟨j, hj⟩ := List.getElem?_of_mem (List.mem_of_find?_eq_some hc)
  have hlt : j < l.length := by
   rcases Nat.lt_or_ge j l.length with h' | h'
   ·exact h'
   ·simp [List.getElem?_eq_none h'] at hj
  rw [List.getElem?_eq_getElem hlt] at hj
  injection hj with hj
  have hid : l[j].Page = id := by rw [hj]; simpa using h1
  have hjk : j = k := by
   rcases Nat.lt_trichotomy j k with h | h | h
   ·have := hk.2.1 j hlt h; omega
   ·exact h
   ·have := hk.2.2 k (by omega) (Nat.le_refl _); have := ho k j hlt h; omega
  subst hjk
  rw [if_pos (J7g.2 ⟨hlt, hid⟩), List.getElem?_eq_getElem hlt, hj]
  rfl
 ·rename_i hc
  rw [if_neg]
  intro h
  obtain ⟨h1, h2⟩ := J7g.1 h
  have := List.find?_eq_none.1 hc _ (List.getElem_mem h1)
  simp [h2] at this
theorem Jdm {x : T_api_Image} (hl : x.Copies.length < 1000000) (id : Int) : J3Z x id = some (if J8Q x then J8F x.Copies id else (JcN, false)) := by
 unfold J3Z
 rw [J3e x hl, Option.bind_some]
 by_cases hx : J2B x
 ·rw [J2W.2 hx, if_pos rfl, if_pos rfl]
  by_cases hr : 0 ≤ id ∧ id < x.Pages
  ·rw [if_neg (by simp; omega), if_neg (by simp; omega)]
   obtain ⟨k, hk, e⟩ := JeQ hx hr.1 (by have := hx.p2; omega)
   rw [e, Option.bind_some, Jtr hx.ord hk]
   dsimp only
   by_cases ht : J4V x.Copies id k = true
   ·obtain ⟨h1, h2⟩ := J7g.1 ht
    rw [if_pos ht, if_pos ht, J52, List.getElem?_eq_getElem h1]
    rfl
   ·rw [if_neg ht, if_neg ht]
    rfl
  ·have hf : J8F x.Copies id = (JcN, false) := by
    unfold J8F
    rw [List.find?_eq_none.2 fun c hc => by
     have := J8e (hx.copies c hc)
     simp; omega]
   rw [hf]
   by_cases hneg : id < 0
   ·rw [if_pos (by simp; omega)]; rfl
   ·rw [if_neg (by simp; omega), if_pos (by simp; omega)]; rfl
 ·have : J8Q x = false := by
   cases h : J8Q x with
   | false => rfl
   | true => exact absurd (J2W.1 h) hx
  rw [this]
  rfl
theorem Jqc {f : Int → Option (Int ⊕ Bool)} {l l' : List T_api_Copy} (hl : l.length < 1000000) (hll : l.length = l'.length)
  (h1 : ∀ (k : Nat) (h : k < l.length), f (k : Int) = some (if (l[k] == l'[k]) = true then .inl ((k + 1 : Nat) : Int) else .inr false)) (h2 : f (l.length : Int) = some (.inr true)) : Ju f 0 = some (l == l') := by
 rw [Jdj (n := l.length) (fun k => l[k]? == l'[k]?) false true hl (fun k h => by
  rw [h1 k h, List.getElem?_eq_getElem h, List.getElem?_eq_getElem (by omega)]
  simp) h2, Jfn]
 congr 1
 rw [Bool.eq_iff_iff]
 simp only [List.all_eq_true, List.mem_range, beq_iff_eq]
 constructor
 ·intro h
  apply List.ext_getElem?
  intro k
  rcases Nat.lt_or_ge k l.length with hk | hk
  ·exact h k hk
  ·rw [List.getElem?_eq_none hk, List.getElem?_eq_none (by omega)]
 ·rintro rfl k _
  rfl
theorem Jot {x y : T_api_Image} (hl : x.Copies.length < 1000000) : J5H x y = some (x == y) := by
 obtain ⟨a, n, l⟩ := x
 obtain ⟨a', n', l'⟩ := y
 unfold J5H J0G
 dsimp only at *
 have e : ((⟨a, n, l⟩ : T_api_Image) == ⟨a', n', l'⟩) = ((a == a') && ((n == n') && (l == l'))) := by
  rw [Bool.eq_iff_iff]; simp
 rw [e]
 cases h1 : (a == a')
 ·rfl
 cases h2 : (n == n')
 ·rfl
 simp only [if_true, Bool.true_and]
 by_cases h3 : l.length = l'.length
 ·rw [if_neg (by simp [h3])]
  unfold J2U
  rw [Jqc hl h3 (fun k hk => by
   unfold J0x
   rw [if_pos (by simp; omega), J52, J52, List.getElem?_eq_getElem hk, List.getElem?_eq_getElem (by omega), Option.bind_some, Option.bind_some]
   have e3 : IntKind.wrap .i64 ((k : Int) + 1) = ((k + 1 : Nat) : Int) := by rw [wrap64 (by omega) (by omega)]; omega
   rw [e3]
   cases l[k] == l'[k] <;> rfl) (by
   unfold J0x
   rw [if_neg (by simp)]
   rfl)]
  rfl
 ·rw [if_pos (by simp; omega)]
  have : (l == l') = false := by
   cases h : l == l' with
   | false => rfl
   | true => simp at h; exact absurd (by rw [h]) h3
  rw [this]; rfl
end Go.Am
end
section
namespace Go.Am
set_option maxRecDepth 16000
set_option linter.unusedSimpArgs false
set_option linter.unusedVariables false
theorem Jfm {l : List T_api_Copy} : Asc l ↔ l.Pairwise fun a b => a.Page < b.Page := by
 rw [List.pairwise_iff_getElem]
 exact ⟨fun h i j hi hj hij => h i j hj hij, fun h i j hj hij => h i j (by omega) hj hij⟩
theorem JnZ : ∀ {l l' : List T_api_Copy}, (l.Pairwise fun a b => a.Page < b.Page) → (l'.Pairwise fun a b => a.Page < b.Page) → (∀ y, y ∈ l ↔ y ∈ l') → l = l'
 | [], [], _, _, _ => rfl
 | [], y :: l', _, _, h => by have := (h y).2 (by simp); cases this
 | x :: l, [], _, _, h => by have := (h x).1 (by simp); cases this
 | x :: l, y :: l', h1, h2, h => by
  rw [List.pairwise_cons] at h1 h2
  have hxy : x = y := by
   rcases List.mem_cons.1 ((h x).1 (by simp)) with e | e
   ·exact e
   ·rcases List.mem_cons.1 ((h y).2 (by simp)) with e' | e'
    ·exact e'.symm
    ·have := h1.1 y e'; have := h2.1 x e; omega
  subst hxy
  rw [JnZ h1.2 h2.2 fun z => ⟨fun hz => by
   rcases List.mem_cons.1 ((h z).1 (by simp [hz])) with e | e
   ·subst e; have := h1.1 z hz; omega
   ·exact e, fun hz => by
   rcases List.mem_cons.1 ((h z).2 (by simp [hz])) with e | e
   ·subst e; have := h2.1 z hz; omega
   ·exact e⟩]
theorem JnY {l : List T_api_Copy} {id : Int} {k : Nat} (hk : Cut l id k) : ∀ y ∈ l.take k, y.Page < id ∧ y ∈ l := by
 intro y hy
 obtain ⟨j, hj, rfl⟩ := List.mem_iff_getElem.1 hy
 simp only [List.length_take] at hj
 rw [List.getElem_take]
 exact ⟨hk.2.1 j (by omega) (by omega), List.getElem_mem _⟩
theorem Jj6 {l : List T_api_Copy} (ho : Asc l) {id : Int} {k : Nat} (hk : Cut l id k) : ∀ y ∈ l.drop (if J4V l id k then k + 1 else k), id < y.Page ∧ y ∈ l := by
 intro y hy
 obtain ⟨j, hj, rfl⟩ := List.mem_iff_getElem.1 hy
 simp only [List.length_drop] at hj
 rw [List.getElem_drop]
 refine ⟨?_, List.getElem_mem _⟩
 by_cases ht : J4V l id k = true
 ·obtain ⟨h1, h2⟩ := J7g.1 ht
  simp only [ht, if_true] at hj ⊢
  have := ho k (k + 1 + j) (by omega) (by omega)
  omega
 ·simp only [ht, Bool.false_eq_true, if_false] at hj ⊢
  have h0 := hk.2.2 (k + j) (by omega) (by omega)
  rcases Nat.eq_zero_or_pos j with hz | hz
  ·subst hz
   have : l[k].Page ≠ id := fun h => ht (J7g.2 ⟨by omega, h⟩)
   simp only [Nat.add_zero] at h0 ⊢
   omega
  ·have := ho k (k + j) (by omega) (by omega)
   have := hk.2.2 k (by omega) (Nat.le_refl _)
   omega
theorem JcM {l : List T_api_Copy} (ho : Asc l) {c : T_api_Copy} {k : Nat} (hk : Cut l c.Page k) (y : T_api_Copy) : y ∈ Jb2 l c k ↔ y = c ∨ (y ∈ l ∧ y.Page ≠ c.Page) := by
 unfold Jb2
 rw [List.mem_append, List.mem_cons]
 constructor
 ·rintro (h | h | h)
  ·have := JnY hk y h; exact .inr ⟨this.2, by omega⟩
  ·exact .inl h
  ·have := Jj6 ho hk y h; exact .inr ⟨this.2, by omega⟩
 ·rintro (h | ⟨h, hne⟩)
  ·exact .inr (.inl h)
  ·obtain ⟨j, hj, rfl⟩ := List.mem_iff_getElem.1 h
   rcases Nat.lt_or_ge j k with h1 | h1
   ·exact .inl (List.mem_iff_getElem.2 ⟨j, by simp; omega, by rw [List.getElem_take]⟩)
   ·refine .inr (.inr ?_)
    have hge : (if J4V l c.Page k then k + 1 else k) ≤ j := by
     split
     ·rename_i ht
      obtain ⟨h3, h4⟩ := J7g.1 ht
      rcases Nat.eq_or_lt_of_le h1 with h5 | h5
      ·subst h5; exact absurd h4 hne
      ·exact h5
     ·exact h1
    generalize (if J4V l c.Page k then k + 1 else k) = k' at hge
    exact List.mem_iff_getElem.2 ⟨j - k', by simp; omega, by rw [List.getElem_drop]; congr 1; omega⟩
theorem Jo7 {l : List T_api_Copy} (ho : Asc l) {c : T_api_Copy} {k : Nat} (hk : Cut l c.Page k) : Asc (Jb2 l c k) := by
 rw [Jfm]
 have hp := Jfm.1 ho
 unfold Jb2
 rw [List.pairwise_append, List.pairwise_cons]
 refine ⟨hp.sublist (List.take_sublist _ _), ⟨fun y hy => (Jj6 ho hk y hy).1, hp.sublist (List.drop_sublist _ _)⟩, fun a ha b hb => ?_⟩
 have h1 := (JnY hk a ha).1
 rcases List.mem_cons.1 hb with h | h
 ·rw [h]; exact h1
 ·have := (Jj6 ho hk b h).1; omega
theorem JpX {x : T_api_Image} (hx : J2B x) {id : Int} {s : List UInt8} (h0 : 0 ≤ id) (h1 : id < x.Pages) (hs : (idn s id).2 = 0) {k : Nat} (hk : Cut x.Copies id k) :
  J2B ⟨x.ID, x.Pages, Jb2 x.Copies ⟨id, (idn s id).1.LSN, s⟩ k⟩ := by
 have ho := hx.ord
 refine ⟨hx.id1, hx.id2, hx.p1, hx.p2, fun y hy => ?_, fun j hj => Jo7 (c := ⟨id, (idn s id).1.LSN, s⟩) ho hk j (j + 1) hj (by omega)⟩
 rcases (JcM (c := ⟨id, (idn s id).1.LSN, s⟩) ho hk y).1 hy with h | h
 ·subst h
  simp [J8s, h1, hs]
 ·exact hx.copies y h.1
theorem Jhf {l : List T_api_Copy} (ho : Asc l) {id : Int} {y : T_api_Copy} (hy : y ∈ l) (hid : y.Page = id) : J8F l id = (y, true) := by
 unfold J8F
 cases hf : l.find? (fun c => c.Page == id) with
 | none => have := List.find?_eq_none.1 hf y hy; simp [hid] at this
 | some c =>
  have h1 := List.find?_some hf
  have h2 := List.mem_of_find?_eq_some hf
  obtain ⟨i, hi, rfl⟩ := List.mem_iff_getElem.1 hy
  obtain ⟨j, hj, rfl⟩ := List.mem_iff_getElem.1 h2
  simp only [beq_iff_eq] at h1
  have : i = j := by
   rcases Nat.lt_trichotomy i j with h | h | h
   ·have := ho i j hj h; omega
   ·exact h
   ·have := ho j i hi h; omega
  subst this
  rfl
theorem JlQ {l : List T_api_Copy} {id : Int} (h : ∀ y ∈ l, y.Page ≠ id) : J8F l id = (JcN, false) := by
 unfold J8F
 rw [List.find?_eq_none.2 fun c hc => by simpa using h c hc]
theorem Jr7 {l : List T_api_Copy} (ho : Asc l) {c : T_api_Copy} {k : Nat} (hk : Cut l c.Page k) (id : Int) : J8F (Jb2 l c k) id = if id = c.Page then (c, true) else J8F l id := by
 have ho' := Jo7 ho hk
 by_cases h : id = c.Page
 ·rw [if_pos h]
  exact Jhf ho' ((JcM ho hk c).2 (.inl rfl)) h.symm
 ·rw [if_neg h]
  by_cases hx : ∃ y ∈ l, y.Page = id
  ·obtain ⟨y, hy, hid⟩ := hx
   rw [Jhf ho hy hid, Jhf ho' ((JcM ho hk y).2 (.inr ⟨hy, by omega⟩)) hid]
  ·rw [JlQ fun y hy => ?_, JlQ fun y hy => ?_]
   ·exact fun e => hx ⟨y, hy, e⟩
   ·intro e
    rcases (JcM ho hk y).1 hy with h2 | h2
    ·subst h2; exact h e.symm
    ·exact hx ⟨y, h2.1, e⟩
theorem JbK {x : T_api_Image} (hx : J2B x) {id : Int} {s : List UInt8} (h0 : 0 ≤ id) (h1 : id < x.Pages) (hs : (idn s id).2 = 0) :
  ∃ y, J0Q x id s = some (y, 0) ∧ J2r x id s = some (y, 0) ∧ J2B y ∧ y.ID = x.ID ∧ y.Pages = x.Pages ∧ (∀ z, z ∈ y.Copies ↔ z = ⟨id, (idn s id).1.LSN, s⟩ ∨ (z ∈ x.Copies ∧ z.Page ≠ id)) ∧
   ∀ i, J8F y.Copies i = if i = id then (⟨id, (idn s id).1.LSN, s⟩, true) else J8F x.Copies i := by
 obtain ⟨k, hk⟩ := Jqb hx h0 (by have := hx.p2; omega)
 exact ⟨_, JjX hx h0 h1 hs hk, Jo6 hx h0 h1 hs hk, JpX hx h0 h1 hs hk, rfl, rfl, fun z => JcM (c := ⟨id, (idn s id).1.LSN, s⟩) hx.ord hk z, fun i => Jr7 (c := ⟨id, (idn s id).1.LSN, s⟩) hx.ord hk i⟩
theorem Jt1 {x : T_api_Image} (hl : x.Copies.length < 1000000) (id : Int) (s : List UInt8) : ∃ r, J0Q x id s = some r ∧ J2r x id s = some r ∧ (r.2 = 0 → J2B x ∧ J2B r.1 ∧ r.1.Pages = x.Pages) ∧ (r.2 ≠ 0 → r.1 = ⟨0, 0, []⟩) := by
 by_cases hx : J2B x
 ·by_cases hr : 0 ≤ id ∧ id < x.Pages
  ·by_cases hs : (idn s id).2 = 0
   ·obtain ⟨y, e1, e2, h1, _, h2, _⟩ := JbK hx hr.1 hr.2 hs
    exact ⟨_, e1, e2, fun _ => ⟨hx, h1, h2⟩, fun h => absurd rfl h⟩
   ·rw [Jhp hl]
    unfold J0Q
    rw [J3e x hl, J2W.2 hx, Option.bind_some, if_pos rfl, if_neg (by simp; omega), if_neg (by simp; omega), Ja2, Option.bind_some, if_pos (by simpa using hs)]
    exact ⟨_, rfl, rfl, fun h => absurd h hs, fun _ => rfl⟩
  ·rw [Jhp hl]
   unfold J0Q
   rw [J3e x hl, J2W.2 hx, Option.bind_some, if_pos rfl]
   by_cases hneg : id < 0
   ·rw [if_pos (by simpa using hneg)]
    exact ⟨_, rfl, rfl, fun h => by simp at h, fun _ => rfl⟩
   ·rw [if_neg (by simpa using hneg), if_pos (by simp; omega)]
    exact ⟨_, rfl, rfl, fun h => by simp at h, fun _ => rfl⟩
 ·rw [Jhp hl]
  unfold J0Q
  have : J8Q x = false := by
   cases h : J8Q x with
   | false => rfl
   | true => exact absurd (J2W.1 h) hx
  rw [J3e x hl, this, Option.bind_some, if_neg (by decide)]
  exact ⟨_, rfl, rfl, fun h => by simp at h, fun _ => rfl⟩
end Go.Am
end
section
namespace Go.Am
set_option maxRecDepth 16000
set_option linter.unusedSimpArgs false
set_option linter.unusedVariables false
def part (s : List UInt8) (at_ n : Nat) : List UInt8 := (s.drop at_).take n
def Jf3 (p : List UInt8) : List UInt8 := Jv (p.length : Int) 4 ++ p ++ Jv ((crc (Jv (p.length : Int) 4 ++ p) : Nat) : Int) 4
theorem J8J (p : List UInt8) : (Jf3 p).length = p.length + 8 := by simp [Jf3, Jo]; omega
theorem Ji4 {p : List UInt8} (h : p.length ≤ 8392) : J2M p = some (Jf3 p) := by
 unfold J2M
 rw [if_neg (by simp; omega), show (4 : Int) = ((4 : Nat) : Int) from rfl, Jfu [] _ (by decide) (by decide) (by simp), Option.bind_some, List.nil_append, Jbt (by simp [Jo]; omega), Option.bind_some, Jhs _ (by simp [Jo]; omega), Option.bind_some]
 have hc := Jix (Jv (p.length : Int) 4 ++ p)
 rw [wrap64 (by omega) (by omega), Jfu _ _ (by decide) (by decide) (by simp [Jo]; omega)]
 rfl
end Go.Am
end
section
namespace Go.Am
set_option maxRecDepth 16000
set_option linter.unusedSimpArgs false
set_option linter.unusedVariables false
def Jlm (x : T_api_Image) : List UInt8 := [80, 77, 73, 77] ++ Jv x.ID 4 ++ Jv x.Pages 2 ++ Jv (x.Copies.length : Int) 2
def Jlo (c : T_api_Copy) : List UInt8 := Jv c.Page 2 ++ c.Data
def Jbu (l : List T_api_Copy) : List UInt8 := (l.map fun c => Jf3 (Jlo c)).flatten
def JrG (x : T_api_Image) : List UInt8 := Jf3 (Jlm x) ++ Jbu x.Copies
theorem Jc5 (x : T_api_Image) : (Jlm x).length = 12 := by simp [Jlm, Jo]
theorem Jcm {c : T_api_Copy} (h : c.Data.length = 256) : (Jlo c).length = 258 := by simp [Jlo, Jo, h]
theorem J2B.data {x : T_api_Image} (h : J2B x) : ∀ c ∈ x.Copies, c.Data.length = 256 := fun c hc => (Jk5 (J8e (h.copies c hc)).2.2.2.1).2.2
theorem Jgo : ∀ {l : List T_api_Copy}, (∀ c ∈ l, c.Data.length = 256) → (Jbu l).length = 266 * l.length
 | [], _ => rfl
 | c :: l, h => by
  have := Jgo (l := l) fun c hc => h c (by simp [hc])
  unfold Jbu at this ⊢
  rw [List.map_cons, List.flatten_cons, List.length_append, this, J8J, Jcm (h c (by simp))]
  simp; omega
theorem Jrs {x : T_api_Image} (h : J2B x) : (JrG x).length = 20 + 266 * x.Copies.length := by
 unfold JrG
 rw [List.length_append, J8J, Jc5, Jgo h.data]
theorem Jkg : ∀ (l : List T_api_Copy) (s : List UInt8), (∀ c ∈ l, c.Data.length = 256) → s.length + 300 * l.length ≤ 1000000 → JbP l s = some (s ++ Jbu l)
 | [], s, _, _ => by simp [JbP, Jbu]
 | c :: l, s, h, hs => by
  have hd := h c (by simp)
  simp only [List.length_cons] at hs
  unfold JbP
  have e1 : J0s [] c.Page 2 = some (Jv c.Page 2) := by
   have := Jfu [] c.Page (k := 2) (by decide) (by decide) (by simp)
   simpa using this
  rw [e1, Option.bind_some, Jbt (by simp [Jo]; omega), Option.bind_some, show Jv c.Page 2 ++ c.Data = Jlo c from rfl, Ji4 (by rw [Jcm hd]; omega), Option.bind_some]
  rw [if_pos (by rw [J8J, Jcm hd]; omega), Jkg l _ (fun c hc => h c (by simp [hc])) (by rw [List.length_append, J8J, Jcm hd]; omega)]
  simp [Jbu]
theorem JrK (put : List UInt8 → Int → Int → Option (List UInt8)) (h : ∀ (l : List UInt8) (n : Int) (k : Nat), 1 ≤ k → k ≤ 8 → l.length ≤ 1000 → put l n (k : Int) = some (l ++ Jv n k)) (x : T_api_Image) {ρ : Type} (f : List UInt8 → Option ρ) :
  (Option.bind (put [80, 77, 73, 77] x.ID 4) fun h1 => Option.bind (put h1 x.Pages 2) fun h2 => Option.bind (put h2 ((x.Copies.length : Nat) : Int) 2) fun h3 => f h3) = f (Jlm x) := by
 rw [show (4 : Int) = ((4 : Nat) : Int) from rfl, show (2 : Int) = ((2 : Nat) : Int) from rfl, h _ _ 4 (by decide) (by decide) (by simp), Option.bind_some, h _ _ 2 (by decide) (by decide) (by simp [Jo]), Option.bind_some, h _ _ 2 (by decide) (by decide) (by simp [Jo]), Option.bind_some]
 rfl
theorem JlM {x : T_api_Image} (hl : x.Copies.length ≤ 1000) : J2S x = some (if J8Q x then (JrG x, 0) else ([], 43)) := by
 unfold J2S
 rw [J3e x (by omega), Option.bind_some]
 by_cases hx : J2B x
 ·rw [J2W.2 hx, if_pos rfl, if_pos rfl]
  rw [JrK J0s (fun l n k h1 h8 h => Jfu l n h1 h8 (by omega)) x, Ji4 (by rw [Jc5]; omega), Option.bind_some, if_pos (by rw [J8J, Jc5]; omega),
   Jkg _ _ hx.data (by rw [J8J, Jc5]; omega), Option.bind_some]
  rfl
 ·have : J8Q x = false := by
   cases h : J8Q x with
   | false => rfl
   | true => exact absurd (J2W.1 h) hx
  rw [this]
  rfl
end Go.Am
end
section
namespace Go.Am
set_option maxRecDepth 16000
set_option linter.unusedSimpArgs false
set_option linter.unusedVariables false
theorem Jmk {σ ρ : Type} {f : σ → Option (σ ⊕ ρ)} (I : σ → Prop) (m : σ → Nat) (Q : ρ → Prop)
  (h : ∀ s, I s → Tot (f s) fun r => (∃ s', r = .inl s' ∧ I s' ∧ m s' < m s) ∨ ∃ x, r = .inr x ∧ Q x) {s : σ} (hs : I s) : Tot (Ju f s) Q := by
 obtain ⟨r, h1, h2⟩ := J0P (f := f) I m Q (fun s hs => by
  obtain ⟨r, e, h3⟩ := h s hs
  rcases h3 with ⟨s', rfl, h4, h5⟩ | ⟨x, rfl, h4⟩
  ·exact .inl ⟨s', e, h4, h5⟩
  ·exact .inr ⟨x, e, h4⟩) s hs
 exact ⟨r, h1, h2⟩
theorem JcC {p : T_api_Page} (hp : J3N p) : J1Y p = some (J9L p, 0) := by rw [Jdo, JeM hp]
theorem Jfp {p : T_api_Page} (hp : J3N p) : idn (J9L p) p.ID = (p, 0) := by
 have h := Ja2 (J9L p) p.ID
 rw [Jle hp hp.id0 hp.id1, if_pos rfl] at h
 injection h with h
 exact h.symm
section
variable {b : T_pagemenddraw_Codes} (hb : J1o b)
include hb
theorem Jlt {id : Int} (h0 : 0 ≤ id) (h1 : id < 64) : Drw (J1R b id) fun p => J3N p ∧ p.ID = id := by
 obtain ⟨p, b', e, h2, h3, h4⟩ := Jpo hb h0 h1
 exact ⟨_, e, h2, h3, h4⟩
theorem JsK : Drw (J2D b) fun t => t.length = 256 := by
 obtain ⟨p, b', e, h2, h3⟩ := Jrz hb
 exact ⟨_, e, h2, h3⟩
theorem Jtg {id : Int} (h0 : 0 ≤ id) (h1 : id < 64) : Drw (J7a b id) fun t => t.length = 256 := by
 unfold J7a
 refine .bind (Jdb hb (by omega) (by omega)) fun r1 ⟨h2, q2⟩ => .both ?_ (.both ?_ ?_)
 ·exact .eq Jkh (.some ⟨h2, JsP⟩)
 ·exact .bind (JsK h2) fun r3 ⟨h3, q3⟩ => .some ⟨h3, q3⟩
 ·refine .bind (Jlt h2 h0 h1) fun r3 ⟨h3, q3, q4⟩ => .eq (JcC q3) (.some ⟨h3, Jpl q3⟩)
theorem Jt6 : Drw (J76 b) fun x => J2B x ∧ x.Pages ≤ 6 := by
 unfold J76
 refine .bind (Jdb hb (by omega) (by omega)) fun r1 ⟨h1, q1⟩ => .bind (Jdb h1 (by omega) (by omega)) fun r2 ⟨h2, q2⟩ => ?_
 unfold Jap
 refine Jmk (fun s : Int × T_pagemenddraw_Codes × T_api_Image => 0 ≤ s.1 ∧ s.1 ≤ 6 ∧ J1o s.2.1 ∧ J2B s.2.2 ∧ s.2.2.Pages ≤ 6) (fun s => (6 - s.1).toNat) _ ?_ ?_
 ·rintro ⟨k, b', x⟩ ⟨k0, k6, hb', hx, hp⟩
  dsimp only at *
  unfold J7e
  refine .ite (fun hlt => ?_) (fun hge => ?_)
  ·have hlt : k < x.Pages := by simpa using hlt
   have e3 : IntKind.wrap .i64 (k + 1) = k + 1 := wrap64 (by omega) (by omega)
   unfold J5z
   simp only [e3]
   refine .bind (Jdb hb' (by omega) (by omega)) fun r3 ⟨h3, q3⟩ => .both ?_ ?_
   ·exact .some (.inl ⟨_, rfl, ⟨by dsimp only; omega, by dsimp only; omega, h3, hx, hp⟩, by dsimp only; omega⟩)
   ·refine .bind (Jtg h3 k0 (by omega)) fun r4 ⟨h4, q4⟩ => ?_
    have hl : x.Copies.length ≤ 64 := by have := hx.len; omega
    obtain ⟨r, e1, e2, ok, _⟩ := Jt1 (x := x) (by omega) k r4.1
    refine .eq e2 (.ite (fun h0 => ?_) (fun _ => ?_))
    ·obtain ⟨_, y1, y2⟩ := ok (by simpa using h0)
     exact .some (.inl ⟨_, rfl, ⟨by dsimp only; omega, by dsimp only; omega, h4, y1, by dsimp only; omega⟩, by dsimp only; omega⟩)
    ·exact .some (.inl ⟨_, rfl, ⟨by dsimp only; omega, by dsimp only; omega, h4, hx, hp⟩, by dsimp only; omega⟩)
  ·exact .some (.inr ⟨_, rfl, hb', hx, hp⟩)
 ·have e1 : IntKind.wrap .i64 (1 + r1.1) = 1 + r1.1 := wrap64 (by omega) (by omega)
  have e2 : IntKind.wrap .i64 (1 + r2.1) = 1 + r2.1 := wrap64 (by omega) (by omega)
  rw [e1, e2]
  refine ⟨by dsimp only; omega, by dsimp only; omega, h2, ⟨by dsimp only; omega, by dsimp only; omega, by dsimp only; omega, by dsimp only; omega, fun c hc => (List.not_mem_nil hc).elim, fun k hk => (Nat.not_lt_zero _ hk).elim⟩, by dsimp only; omega⟩
end
theorem Jh8 : J2B ⟨1, 1, []⟩ := ⟨by decide, by decide, by decide, by decide, fun c hc => (List.not_mem_nil hc).elim, fun k hk => (Nat.not_lt_zero _ hk).elim⟩
theorem Jtm : J59 = some true := by
 unfold J59
 rw [JlM (by simp), J2W.2 Jh8, if_pos rfl, Option.bind_some]
 have hl := Jrs Jh8
 rw [if_pos (by rfl), if_pos (by dsimp only; rw [hl]; rfl), J3e _ (by simp), J2W.2 Jh8]
 rfl
end Go.Am
end
section
namespace Go.Am
set_option maxRecDepth 16000
set_option linter.unusedSimpArgs false
set_option linter.unusedVariables false
theorem Jvx {x y : T_api_Image} (h1 : x.ID = y.ID) (h2 : x.Pages = y.Pages) (h3 : x.Copies = y.Copies) : x = y := by
 cases x; cases y; simp at h1 h2 h3; simp [h1, h2, h3]
theorem Jgc {l : List Int} (h : List.length l ≤ maxLen ∧ ∀ x ∈ l, 0 ≤ x ∧ x ≤ 255) : J4g l = some true := by
 have key : Tot (J4g l) fun r => r = true := by
  unfold J4g
  refine .eq Jtm ?_
  rw [if_pos rfl]
  obtain ⟨b, e, hb⟩ := Jtu h (n := 400) (by omega)
  refine .eq e (.bind (Jt6 hb) fun r1 ⟨h1, q1, q2⟩ => ?_)
  obtain ⟨x, b1⟩ := r1
  dsimp only at h1 q1 q2 ⊢
  have p1 := q1.p1
  refine .bind (Jdb h1 p1 (by omega)) fun r2 ⟨h2, i0, i1⟩ => .bind (Jdb h2 p1 (by omega)) fun r3 ⟨h3, j0, j1⟩ => ?_
  obtain ⟨i, b2⟩ := r2
  obtain ⟨j, b3⟩ := r3
  dsimp only at h2 i0 i1 h3 j0 j1 ⊢
  refine .bind (Jlt h3 i0 (by omega)) fun r4 ⟨h4, o4, id4⟩ => .eq (JcC o4) (.bind (Jlt h4 j0 (by omega)) fun r5 ⟨h5, o5, id5⟩ => .eq (JcC o5) ?_)
  dsimp only
  have si : (idn (J9L r4.1) i).2 = 0 := by rw [← id4, Jfp o4]
  have sj : (idn (J9L r5.1) j).2 = 0 := by rw [← id5, Jfp o5]
  obtain ⟨a, ea, _, oa, aid, apg, am, af⟩ := JbK q1 i0 i1 si
  obtain ⟨c, ec, _, oc, cid, cpg, cm, cf⟩ := JbK oa j0 (by omega) sj
  obtain ⟨u, eu, _, ou, uid, upg, um, uf⟩ := JbK q1 j0 j1 sj
  obtain ⟨v, ev, _, ov, vid, vpg, vm, vf⟩ := JbK ou i0 (by omega) si
  have lc : c.Copies.length < 1000000 := by have := oc.len; omega
  refine .eq ea (.eq ec (.eq eu (.eq ev ?_)))
  dsimp only
  rw [if_neg (by decide), if_neg (by decide), if_neg (by decide), if_neg (by decide)]
  refine .eq (Jdm lc j) ?_
  rw [J2W.2 oc, if_pos rfl, cf j, if_pos rfl, if_pos rfl, if_pos (by simp)]
  have last : Tot (J4z i j x c 0) fun r => r = true := by
   unfold J4z
   refine Jmk (fun k : Int => 0 ≤ k ∧ k ≤ x.Pages) (fun k => (x.Pages - k).toNat) _ ?_ ⟨by omega, by omega⟩
   rintro k ⟨k0, k1⟩
   unfold J4A
   refine .ite (fun hlt => ?_) (fun hge => ?_)
   ·have hlt : k < x.Pages := by simpa using hlt
    have e3 : IntKind.wrap .i64 (k + 1) = k + 1 := wrap64 (by omega) (by omega)
    refine .eq (Jdm (by have := q1.len; omega) k) (.eq (Jdm lc k) ?_)
    rw [J2W.2 q1, J2W.2 oc, if_pos rfl, if_pos rfl, e3]
    have fin : Tot (some (.inl (k + 1)) : Option (Int ⊕ Bool)) fun r => (∃ s', r = .inl s' ∧ (0 ≤ s' ∧ s' ≤ x.Pages) ∧ (x.Pages - s').toNat < (x.Pages - k).toNat) ∨ ∃ z, r = .inr z ∧ z = true :=
     .some (.inl ⟨_, rfl, ⟨by omega, by omega⟩, by omega⟩)
    refine .ite (fun hi => .ite (fun hj => ?_) (fun _ => fin)) (fun _ => fin)
    have hi : k ≠ i := by simpa using hi
    have hj : k ≠ j := by simpa using hj
    rw [cf k, if_neg hj, af k, if_neg hi, if_pos (by simp), if_pos (by simp)]
    exact fin
   ·unfold J5O
    refine .map (Q := fun r => r = true) (.eq (J3e c lc) (.some (J2W.2 oc))) (fun r hr => .inr ⟨r, rfl, hr⟩)
  refine .ite (fun hne => ?_) (fun _ => last)
  have hne : i ≠ j := by simpa using hne
  have hcv : c = v := by
   refine Jvx (by rw [cid, aid, vid, uid]) (by rw [cpg, apg, vpg, upg]) (JnZ (Jfm.1 oc.ord) (Jfm.1 ov.ord) fun y => ?_)
   rw [cm, am, vm, um]
   constructor
   ·rintro (h | ⟨h | ⟨h, h'⟩, h''⟩)
    ·subst h; exact .inr ⟨.inl rfl, Ne.symm hne⟩
    ·exact .inl h
    ·exact .inr ⟨.inr ⟨h, h''⟩, h'⟩
   ·rintro (h | ⟨h | ⟨h, h'⟩, h''⟩)
    ·subst h; exact .inr ⟨.inl rfl, hne⟩
    ·exact .inl h
    ·exact .inr ⟨.inr ⟨h, h''⟩, h'⟩
  refine .eq (Jot lc) ?_
  rw [if_pos (by simp [hcv])]
  exact last
 obtain ⟨r, e, rfl⟩ := key
 exact e
def cnt (l : List Bool) : Nat → Nat
 | 0 => 0
 | k + 1 => cnt l k + if l[k]? = some true then 1 else 0
theorem Jjk : ∀ (k : Nat) (t : List Bool) (l : List T_api_Copy), (l.Pairwise fun a b => a.Page < b.Page) → (∀ y ∈ l, 0 ≤ y.Page ∧ y.Page < k) → (∀ i : Nat, i < k → (t[i]? = some true ↔ ∃ y ∈ l, y.Page = i)) → l.length = cnt t k
 | 0, t, l, _, h, _ => by
  cases l with
  | nil => rfl
  | cons y l => have := h y (by simp); omega
 | k + 1, t, l, hp, h, hi => by
  unfold cnt
  by_cases hk : ∃ y ∈ l, y.Page = (k : Int)
  ·
   obtain ⟨y, hy, hpg⟩ := hk
   obtain ⟨a, z, rfl⟩ : ∃ a z, l = a ++ [z] := by
    rcases List.eq_nil_or_concat l with h0 | ⟨a, z, h0⟩
    ·rw [h0] at hy; cases hy
    ·exact ⟨a, z, by rw [h0, List.concat_eq_append]⟩
   rw [List.pairwise_append] at hp
   have hz : z.Page = (k : Int) := by
    rcases List.mem_append.1 hy with hy | hy
    ·have := hp.2.2 y hy z (by simp); have := (h z (by simp)).2; omega
    ·simp at hy; rw [← hy]; exact hpg
   have hlt : ∀ w ∈ a, w.Page < k := fun w hw => by have := hp.2.2 w hw z (by simp); omega
   have := Jjk k t a hp.1 (fun w hw => ⟨(h w (by simp [hw])).1, hlt w hw⟩) (fun i hik => by
    rw [hi i (by omega)]
    constructor
    ·rintro ⟨w, hw, e⟩
     rcases List.mem_append.1 hw with hw | hw
     ·exact ⟨w, hw, e⟩
     ·simp at hw; subst hw; omega
    ·rintro ⟨w, hw, e⟩
     exact ⟨w, by simp [hw], e⟩)
   rw [List.length_append, this, if_pos ((hi k (by omega)).2 ⟨y, hy, hpg⟩)]
   rfl
  ·have := Jjk k t l hp (fun w hw => ⟨(h w hw).1, by
    have h1 := (h w hw).2
    have : w.Page ≠ k := fun e => hk ⟨w, hw, e⟩
    omega⟩) (fun i hik => hi i (by omega))
   rw [this, if_neg (fun e => hk ((hi k (by omega)).1 e))]
   rfl
structure Jsr (x : T_api_Image) (t : List Bool) : Prop where
 ok : J2B x
 small : x.Pages ≤ 8
 len : (t.length : Int) = x.Pages
 iff : ∀ i : Nat, i < t.length → (t[i]? = some true ↔ ∃ y ∈ x.Copies, y.Page = i)
theorem Jsr.count {x : T_api_Image} {t : List Bool} (h : Jsr x t) : x.Copies.length = cnt t t.length := by
 refine Jjk t.length t x.Copies (Jfm.1 h.ok.ord) (fun y hy => ?_) (fun i hi => h.iff i hi)
 have := J8e (h.ok.copies y hy)
 have := h.len
 omega
end Go.Am
end
section
namespace Go.Am
section
variable (P : Program)
def Jac : Nat → TypeId → Bool
 | 0, _ => false
 | n + 1, t => match P.underlying t with
  | some .bool => true
  | some (.int _) => true
  | some .string => true
  | some (.slice e) => Jac n e && decide (t < P.types.size ∧ 0 < P.cellsOf e)
  | some (.struct fs) => fs.toList.all (fun f => Jac n f.type) && decide (t < P.types.size)
  | some (.array _ e) => Jac n e && decide (t < P.types.size)
  | _ => false
def J9W : Nat → TypeId → List PV → Prop
 | 0, _, _ => False
 | n + 1, t, pvs => match P.underlying t with
  | some .bool => ∃ b, pvs = [.b b]
  | some (.int k) => ∃ z, pvs = [.i k z] ∧ (Lit.int k z).wf = true
  | some .string => ∃ l, pvs = [.s l] ∧ l.length ≤ maxLen
  | some (.slice e) => ∃ rows, pvs = [.sl (P.cellsOf e) rows] ∧ rows.length ≤ maxLen ∧ ∀ row ∈ rows, row.length = P.cellsOf e ∧ J9W n e row
  | some (.struct fs) => pvs.length = P.cellsOf t ∧ ∀ f ∈ fs.toList, J9W n f.type ((pvs.drop f.offset).take (P.cellsOf f.type))
  | some (.array m e) => pvs.length = P.cellsOf t ∧ ∀ i, i < m → J9W n e ((pvs.drop (i * P.cellsOf e)).take (P.cellsOf e))
  | _ => False
end
section
variable {H : Type} {enc : TypeId × Value → H} {P : Program} {w : World} {base : Nat} {sp : Nat → Bool} {held : Bool}
def JoQ (w : World) (pvs : List PV) (cs : List Value) : Prop :=
 pvs.length = cs.length ∧ ∀ (i : Nat) p v, pvs[i]? = some p → cs[i]? = some v → JR w (fun r _ => r < w.heap.size) p v
theorem Jf6 {a : Addr} {v : Value} (h : w.cell? a = some v) : a.spot = none ∧ J0a w a.block a.off = some v ∧ a.block < w.heap.size := by
 unfold World.cell? at h
 unfold J0a
 split at h
 ·rename_i c t fz hb
  split at h
  ·cases h
  ·rename_i hs
   refine ⟨by simpa using hs, by rw [hb]; exact h, ?_⟩
   have := Array.getElem?_eq_some_iff.1 hb
   exact this.1
 ·cases h
theorem JqC {a : Addr} {n : Nat} {cs : List Value} (h : w.cells? base a n = some cs) : cs.length = n ∧ ∀ i v, cs[i]? = some v → w.cell? (a.add i) = some v := by
 unfold World.cells? at h
 split at h
 ·have hl := mapM_some_length h
  refine ⟨by simpa using hl, fun i v hv => ?_⟩
  have hi : i < n := by
   have := (List.getElem?_eq_some_iff.1 hv).1
   simp at hl; omega
  have := mapM_some_get h i i (by simp [hi])
  rw [this, hv]
 ·cases h
theorem Jik {α : Type} (Q : Nat → α → Prop) : ∀ (m : Nat), (∀ i, i < m → ∃ x, Q i x) → ∃ xs : List α, xs.length = m ∧ ∀ i x, xs[i]? = some x → Q i x
 | 0, _ => ⟨[], rfl, fun i x h => by simp at h⟩
 | m + 1, h => by
  obtain ⟨xs, hl, hx⟩ := Jik Q m (fun i hi => h i (by omega))
  obtain ⟨y, hy⟩ := h m (by omega)
  refine ⟨xs ++ [y], by simp [hl], fun i x hi => ?_⟩
  rcases Nat.lt_or_ge i xs.length with hlt | hge
  ·rw [List.getElem?_append_left hlt] at hi; exact hx i x hi
  ·rw [List.getElem?_append_right hge] at hi
   have : i - xs.length = 0 := by
    have := (List.getElem?_eq_some_iff.1 hi).1
    simp at this; omega
   rw [this] at hi
   simp at hi; subst hi
   obtain rfl : i = m := by omega
   exact hy
theorem JeI {α : Type} : ∀ (xs : List (List α)) (j : Nat) (y : List α), xs[j]? = some y → (xs.flatten.drop ((xs.take j).map List.length).sum).take y.length = y
 | [], j, y, h => by simp at h
 | x :: xs, 0, y, h => by simp at h; subst h; simp
 | x :: xs, j + 1, y, h => by
  simp at h
  have := JeI xs j y h
  simp only [List.take_succ_cons, List.map_cons, List.sum_cons, List.flatten_cons, List.drop_length_add_append]
  exact this
theorem JsJ (hl : laidOutB P = true) (hm : mapsRowed P = true) : ∀ (n : Nat) (t : TypeId) (cs : List Value) (x : DataW H × List MemPlace) (fuel : Nat), Jac P n t = true → DataW.trod enc P w base sp held fuel t cs = some x →
  ∃ pvs, J9W P n t pvs ∧ JoQ w pvs cs := by
 have K := kids_rows hl hm
 intro n
 induction n with
 | zero => intro t cs x fuel hp; simp [Jac] at hp
 | succ n ih =>
  intro t cs x fuel hp h
  unfold Jac at hp
  unfold J9W
  split at hp
  ·rename_i ht
   obtain ⟨b, rfl, _⟩ := DataW.trod_bool ht h
   refine ⟨[.b b], by simp, rfl, fun i p v h1 h2 => ?_⟩
   match i with
   | 0 => simp at h1 h2; subst h1 h2; exact .b _
   | i + 1 => simp at h1
  ·rename_i k ht
   obtain ⟨z, rfl, _, hwf⟩ := DataW.trod_int ht h
   refine ⟨[.i k z], by simpa using hwf, rfl, fun i p v h1 h2 => ?_⟩
   match i with
   | 0 => simp at h1 h2; subst h1 h2; exact .i _ _
   | i + 1 => simp at h1
  ·rename_i ht
   obtain ⟨s, rfl, _, hsz⟩ := DataW.trod_string ht h
   refine ⟨[.s s.data.toList], ⟨_, rfl, by rw [Array.length_toList]; exact hsz⟩, rfl, fun i p v h1 h2 => ?_⟩
   match i with
   | 0 => simp at h1 h2; subst h1 h2; exact .s _
   | i + 1 => simp at h1
  ·rename_i e ht
   simp only [Bool.and_eq_true, decide_eq_true_eq] at hp
   rcases DataW.trod_slice ht h with ⟨rfl, _⟩ | ⟨a, len, cap, elems, rest, n0, _, rfl, _, _, hlc, hcm, hel, hat, _⟩
   ·refine ⟨[.sl (P.cellsOf e) []], ⟨[], rfl, Nat.zero_le _, by simp⟩, rfl, fun i p v h1 h2 => ?_⟩
    match i with
    | 0 => simp at h1 h2; subst h1 h2; exact .sl0 _ _ _
    | i + 1 => simp at h1
   ·
    have hrow : ∀ i, i < len → ∃ row : List PV, (row.length = P.cellsOf e ∧ J9W P n e row) ∧ ∀ j p, row[j]? = some p → ∃ v, w.cell? (a.add (i * P.cellsOf e) |>.add j) = some v ∧ JR w (fun r _ => r < w.heap.size) p v := by
     intro i hi
     have h1 := hat i hi
     have h2 : ∃ y, elems[i]? = some y := ⟨_, List.getElem?_eq_getElem (by omega)⟩
     obtain ⟨y, hy⟩ := h2
     rw [hy, Option.bind_eq_some_iff] at h1
     obtain ⟨cs', hc, ht'⟩ := h1
     obtain ⟨row, q1, q2, q3⟩ := ih e cs' y n0 hp.1 ht'
     obtain ⟨c1, c2⟩ := JqC hc
     refine ⟨row, ⟨by omega, q1⟩, fun j p hj => ?_⟩
     have hlt : j < cs'.length := by have := (List.getElem?_eq_some_iff.1 hj).1; omega
     have hv := List.getElem?_eq_getElem hlt
     exact ⟨_, c2 j _ hv, q3 j p _ hj hv⟩
    obtain ⟨rows, hrl, hrows⟩ := Jik _ len hrow
    refine ⟨[.sl (P.cellsOf e) rows], ⟨rows, rfl, by omega, fun row hr => ?_⟩, rfl, fun i p v h1 h2 => ?_⟩
    ·obtain ⟨i, hi⟩ := List.getElem?_of_mem hr
     exact (hrows i row hi).1
    match i with
    | i + 1 => simp at h1
    | 0 =>
     simp at h1 h2; subst h1 h2
     by_cases h0 : ∃ (i j : Nat) (row : List PV) (p : PV), rows[i]? = some row ∧ row[j]? = some p
     ·obtain ⟨i0, j0, row0, p0, hr0, hp0⟩ := h0
      have spot : a.spot = none ∨ P.cellsOf e = 0 := by
       rcases Nat.eq_zero_or_pos (P.cellsOf e) with hz | hpos
       ·exact .inr hz
       ·have hlen : 0 < len := by have := (List.getElem?_eq_some_iff.1 hr0).1; omega
        have hr00 := List.getElem?_eq_getElem (l := rows) (i := 0) (by omega)
        have q := hrows 0 _ hr00
        have hj0 := List.getElem?_eq_getElem (l := rows[0]'(by omega)) (i := 0) (by omega)
        obtain ⟨v, hv, _⟩ := q.2 0 _ hj0
        rw [Nat.zero_mul] at hv
        exact .inl (by simpa [Addr.add] using (Jf6 hv).1)
      rcases spot with spot | hz
      ·have cell : ∀ (i j : Nat) (row : List PV) (p : PV), rows[i]? = some row → row[j]? = some p → ∃ v, (a.block < w.heap.size ∧ J0a w a.block (a.off + i * P.cellsOf e + j) = some v) ∧ JR w (fun r _ => r < w.heap.size) p v := by
        intro i j row p hi hj
        obtain ⟨v, hv, hr⟩ := (hrows i row hi).2 j p hj
        obtain ⟨s1, s2, s3⟩ := Jf6 hv
        refine ⟨v, ?_, hr⟩
        have e1 : ((a.add (i * P.cellsOf e)).add j).block = a.block := by unfold Addr.add; split <;> split <;> rfl
        have e2 : ((a.add (i * P.cellsOf e)).add j).off = a.off + i * P.cellsOf e + j := by
         unfold Addr.add
         split <;> split <;> simp_all
        rw [e1] at s3
        rw [e1, e2] at s2
        exact ⟨s3, s2⟩
       have ea : a = ⟨a.block, a.off, none⟩ := by cases a; simp_all
       rw [ea, ← hrl]
       refine .sl _ rows a.block a.off cap (fun i j => ((J0a w a.block (a.off + i * P.cellsOf e + j)).getD default)) (by omega) (fun row hr => ?_) (fun i j row p hi hj => ?_) (fun i j row p hi hj => ?_)
       ·obtain ⟨i, hi⟩ := List.getElem?_of_mem hr
        exact (hrows i row hi).1.1
       ·obtain ⟨v, ⟨h3, h4⟩, _⟩ := cell i j row p hi hj
        exact ⟨h3, by rw [h4]; rfl⟩
       ·obtain ⟨v, ⟨h3, h4⟩, h5⟩ := cell i j row p hi hj
        rw [h4]; exact h5
      ·have := (hrows i0 row0 hr0).1.1
       have := (List.getElem?_eq_some_iff.1 hp0).1
       omega
     ·
      rcases Nat.eq_zero_or_pos len with hz | hpos
      ·have : rows = [] := by cases rows <;> simp_all
       subst this
       subst hz
       exact .sl0 _ _ _
      ·exfalso
       have hr00 := List.getElem?_eq_getElem (l := rows) (i := 0) (by omega)
       have q := (hrows 0 _ hr00).1.1
       exact h0 ⟨0, 0, _, _, hr00, List.getElem?_eq_getElem (by omega)⟩
  ·rename_i fs ht
   simp only [Bool.and_eq_true, decide_eq_true_eq, List.all_eq_true] at hp
   obtain ⟨xs, n0, _, _, hcl, hxl, hat⟩ := DataW.trod_struct ht h
   obtain ⟨_, ksum, koff⟩ := K.struct hp.2 ht
   have hf : ∀ i, i < fs.toList.length → ∃ ys : List PV, ∀ f, fs.toList[i]? = some f → J9W P n f.type ys ∧ JoQ w ys ((cs.drop f.offset).take (P.cellsOf f.type)) := by
    intro i hi
    have hfi := List.getElem?_eq_getElem hi
    have hmem := List.mem_of_getElem? hfi
    have hfa : fs[i]? = some (fs.toList[i]) := by rw [← Array.getElem?_toList]; exact hfi
    have h1 := hat i _ hfa
    have h2 : ∃ y, xs[i]? = some y := ⟨_, List.getElem?_eq_getElem (by simpa [hxl] using hi)⟩
    obtain ⟨y, hy⟩ := h2
    rw [hy] at h1
    obtain ⟨ys, q1, q2⟩ := ih _ _ _ _ (hp.1 _ hmem) h1
    refine ⟨ys, fun f hff => ?_⟩
    rw [hfi] at hff; injection hff with hff; subst hff
    exact ⟨q1, q2⟩
   obtain ⟨yss, hyl, hys⟩ := Jik _ _ hf
   have hlen : ∀ (j : Nat) (f : Field), fs.toList[j]? = some f → ∀ ys : List PV, yss[j]? = some ys → ys.length = P.cellsOf f.type := by
    intro j f hj ys hy
    have q := (hys j ys hy f hj).2.1
    have o := koff j f hj
    rw [q, List.length_take, List.length_drop, hcl, ksum, o]
    have : ((fs.toList.take j).map fun f => P.cellsOf f.type).sum + P.cellsOf f.type ≤ (fs.toList.map fun f => P.cellsOf f.type).sum := by
     have e1 : fs.toList = fs.toList.take j ++ (f :: fs.toList.drop (j + 1)) := by
      have hjl := (List.getElem?_eq_some_iff.1 hj)
      obtain ⟨hjl, he⟩ := hjl
      rw [← he, ← List.drop_eq_getElem_cons hjl, List.take_append_drop]
     conv => rhs; rw [e1]
     simp only [List.map_append, List.map_cons, List.sum_append, List.sum_cons]
     omega
    omega
   have hmapl : yss.map List.length = fs.toList.map fun f => P.cellsOf f.type := by
    apply List.ext_getElem?
    intro j
    rw [List.getElem?_map, List.getElem?_map]
    cases hy : yss[j]? with
    | none =>
     have : fs.toList[j]? = none := by rw [List.getElem?_eq_none_iff] at hy ⊢; omega
     rw [this]; rfl
    | some ys =>
     have hj : j < fs.toList.length := by have := (List.getElem?_eq_some_iff.1 hy).1; omega
     have hfj := List.getElem?_eq_getElem hj
     rw [hfj]
     simp only [Option.map_some]
     rw [hlen j _ hfj ys hy]
   have hoff : ∀ (j : Nat) (f : Field), fs.toList[j]? = some f → ((yss.take j).map List.length).sum = f.offset := by
    intro j f hj
    rw [koff j f hj, List.map_take, hmapl, ← List.map_take]
   refine ⟨yss.flatten, ⟨?_, fun f hf => ?_⟩, ?_, fun i p v h1 h2 => ?_⟩
   ·rw [List.length_flatten, hmapl, ksum]
   ·obtain ⟨j, hj⟩ := List.getElem?_of_mem hf
    have hjl : j < yss.length := by have := (List.getElem?_eq_some_iff.1 hj).1; omega
    have hyj := List.getElem?_eq_getElem hjl
    have := JeI yss j _ hyj
    rw [hoff j f hj, hlen j f hj _ hyj] at this
    rw [this]
    exact (hys j _ hyj f hj).1
   ·rw [List.length_flatten, hmapl, hcl, ksum]
   ·
    have key : ∀ (l : List (List PV)) (i : Nat) p, l.flatten[i]? = some p → ∃ j ys k, l[j]? = some ys ∧ ys[k]? = some p ∧ i = ((l.take j).map List.length).sum + k := by
     intro l
     induction l with
     | nil => intro i p h; simp at h
     | cons y l ihl =>
      intro i p h
      rw [List.flatten_cons] at h
      rcases Nat.lt_or_ge i y.length with hlt | hge
      ·rw [List.getElem?_append_left hlt] at h
       exact ⟨0, y, i, rfl, h, by simp⟩
      ·rw [List.getElem?_append_right hge] at h
       obtain ⟨j, ys, k, a1, a2, a3⟩ := ihl _ _ h
       exact ⟨j + 1, ys, k, by simpa using a1, a2, by simp only [List.take_succ_cons, List.map_cons, List.sum_cons]; omega⟩
    obtain ⟨j, ys, k, a1, a2, a3⟩ := key _ _ _ h1
    have hj : j < fs.toList.length := by have := (List.getElem?_eq_some_iff.1 a1).1; omega
    have hfj := List.getElem?_eq_getElem hj
    have q := (hys j ys a1 _ hfj).2
    refine q.2 k p v a2 ?_
    have hk : k < P.cellsOf (fs.toList[j]).type := by have := (List.getElem?_eq_some_iff.1 a2).1; rw [hlen j _ hfj ys a1] at this; exact this
    rw [List.getElem?_take_of_lt hk, List.getElem?_drop, ← hoff j _ hfj, ← a3]
    exact h2
  ·rename_i m e ht
   simp only [Bool.and_eq_true, decide_eq_true_eq] at hp
   obtain ⟨xs, n0, _, _, hcl, hxl, hat⟩ := DataW.trod_array ht h
   obtain ⟨_, ksz⟩ := K.array hp.2 ht
   have hf : ∀ i, i < m → ∃ ys : List PV, J9W P n e ys ∧ JoQ w ys ((cs.drop (i * P.cellsOf e)).take (P.cellsOf e)) := by
    intro i hi
    have h1 := hat i hi
    have h2 : ∃ y, xs[i]? = some y := ⟨_, List.getElem?_eq_getElem (by omega)⟩
    obtain ⟨y, hy⟩ := h2
    rw [hy] at h1
    exact ih _ _ _ _ hp.1 h1
   obtain ⟨yss, hyl, hys⟩ := Jik _ _ hf
   have hlen : ∀ (j : Nat) ys, yss[j]? = some ys → ys.length = P.cellsOf e := by
    intro j ys hy
    have q := (hys j ys hy).2.1
    have hj : j < m := by have := (List.getElem?_eq_some_iff.1 hy).1; omega
    rw [q, List.length_take, List.length_drop, hcl, ksz]
    have : j * P.cellsOf e + P.cellsOf e ≤ m * P.cellsOf e := by rw [← Nat.succ_mul]; exact Nat.mul_le_mul_right _ hj
    omega
   have hall : ∀ y ∈ yss, y.length = P.cellsOf e := fun y hy => by
    obtain ⟨j, hj⟩ := List.getElem?_of_mem hy
    exact hlen j y hj
   have hsum : ∀ l : List (List PV), (∀ y ∈ l, y.length = P.cellsOf e) → (l.map List.length).sum = l.length * P.cellsOf e := by
    intro l
    induction l with
    | nil => intro _; simp
    | cons y l ihl => intro hh; simp [hh y (by simp), ihl (fun z hz => hh z (by simp [hz])), Nat.succ_mul, Nat.add_comm]
   have hoff : ∀ j, j ≤ m → ((yss.take j).map List.length).sum = j * P.cellsOf e := by
    intro j hj
    rw [hsum _ (fun y hy => hall y (List.mem_of_mem_take hy)), List.length_take, hyl, Nat.min_eq_left hj]
   refine ⟨yss.flatten, ⟨?_, fun j hj => ?_⟩, ?_, fun i p v h1 h2 => ?_⟩
   ·rw [List.length_flatten, hsum _ hall, hyl, ksz]
   ·have hyj := List.getElem?_eq_getElem (l := yss) (i := j) (by omega)
    have := JeI yss j _ hyj
    rw [hoff j (by omega), hlen j _ hyj] at this
    rw [this]
    exact (hys j _ hyj).1
   ·rw [List.length_flatten, hsum _ hall, hcl, hyl, ksz]
   ·have key : ∀ (l : List (List PV)) (i : Nat) p, l.flatten[i]? = some p → ∃ j ys k, l[j]? = some ys ∧ ys[k]? = some p ∧ i = ((l.take j).map List.length).sum + k := by
     intro l
     induction l with
     | nil => intro i p h; simp at h
     | cons y l ihl =>
      intro i p h
      rw [List.flatten_cons] at h
      rcases Nat.lt_or_ge i y.length with hlt | hge
      ·rw [List.getElem?_append_left hlt] at h
       exact ⟨0, y, i, rfl, h, by simp⟩
      ·rw [List.getElem?_append_right hge] at h
       obtain ⟨j, ys, k, a1, a2, a3⟩ := ihl _ _ h
       exact ⟨j + 1, ys, k, by simpa using a1, a2, by simp only [List.take_succ_cons, List.map_cons, List.sum_cons]; omega⟩
    obtain ⟨j, ys, k, a1, a2, a3⟩ := key _ _ _ h1
    have hj : j < m := by have := (List.getElem?_eq_some_iff.1 a1).1; omega
    have q := (hys j ys a1).2
    refine q.2 k p v a2 ?_
    have hk : k < P.cellsOf e := by have := (List.getElem?_eq_some_iff.1 a2).1; rw [hlen j ys a1] at this; exact this
    rw [List.getElem?_take_of_lt hk, List.getElem?_drop, ← hoff j (by omega), ← a3]
    exact h2
  ·cases hp
end
end Go.Am
end
section
namespace Go.Am
open Go.ChangeShapes Go.WideShapes Go.ChangeAt Go.RowKit
def gh0 (w : World) : Gh := ⟨fun _ => none, fun r _ => r < w.heap.size⟩
theorem JiW (g : Gh) (w : World) (b r o : Nat) : ¬ Wr1 ⟨[], g, w⟩ b r o := by
 unfold Wr1; simp
theorem Jw2 (w : World) : Inv ⟨[], gh0 w, w⟩ where
 box := fun b cs h => by simp at h
 arr := fun b wm esz rows h => by simp at h
 apart := fun b1 b2 r o h => absurd h (JiW _ _ _ _ _)
 const := fun r o h => ⟨h, fun b => JiW _ _ _ _ _⟩
def Jc9 (w w' : World) : Prop := JaX (fun _ _ => False) w w'
theorem Jc9.kept {w w' : World} (h : Jc9 w w') (may : MemPlace → Prop) : w.keptBut w' may := by
 obtain ⟨h1, h2, h3, h4, h5⟩ := h
 refine ⟨h4, h5, fun i hi => ?_⟩
 have hg := Array.getElem?_eq_getElem hi
 cases hw : w.heap[i]? with
 | none => rw [hg] at hw; cases hw
 | some x =>
  cases x with
  | cells c e fz =>
   obtain ⟨c', q1, q2, q3⟩ := h2 i c e fz hw
   rw [q1]
   exact ⟨rfl, rfl, q2, fun j _ => q3 j (fun hf => hf)⟩
  | map es clock =>
   have := h3 i _ hw (fun c e fz he => by cases he)
   rw [this]
   exact .inr ⟨rfl, rfl⟩
  | _ =>
   have := h3 i _ hw (fun c e fz he => by cases he)
   rw [this]
theorem Jc9.same {w w' : World} (h : Jc9 w w') {p : MemPlace} (hp : p.block < w.heap.size) : w.sameAt w' p := by
 obtain ⟨h1, h2, h3, h4, h5⟩ := h
 cases p with
 | cell b off =>
  have hb : b < w.heap.size := hp
  have hg := Array.getElem?_eq_getElem hb
  show w'.cell? ⟨b, off, none⟩ = w.cell? ⟨b, off, none⟩
  rw [J4Z, J4Z]
  unfold J0a
  cases hw : w.heap[b]? with
  | none => rw [hg] at hw; cases hw
  | some x =>
   cases x with
   | cells c e fz =>
    obtain ⟨c', q1, q2, q3⟩ := h2 b c e fz hw
    rw [q1]
    exact q3 off (fun hf => hf)
   | _ =>
    have := h3 b _ hw (fun c e fz he => by cases he)
    rw [this]
 | map b =>
  have hb : b < w.heap.size := hp
  have hg := Array.getElem?_eq_getElem hb
  show w'.heap[b]? = w.heap[b]?
  cases hw : w.heap[b]? with
  | none => rw [hg] at hw; cases hw
  | some x =>
   cases x with
   | cells c e fz =>
    obtain ⟨c', q1, q2, q3⟩ := h2 b c e fz hw
    rw [q1]
    have : c' = c := by
     apply Array.ext_getElem?
     intro i
     exact q3 i (fun hf => hf)
    rw [this]
   | _ => exact h3 b _ hw (fun c e fz he => by cases he)
theorem Jc9.frozen {w w' : World} (h : Jc9 w w') {a : Addr} (hp : a.block < w.heap.size) : w'.frozen? a = w.frozen? a := by
 obtain ⟨h1, h2, h3, h4, h5⟩ := h
 have hg := Array.getElem?_eq_getElem hp
 unfold World.frozen?
 cases hw : w.heap[a.block]? with
 | none => rw [hg] at hw; cases hw
 | some x =>
  cases x with
  | cells c e fz =>
   obtain ⟨c', q1, q2, q3⟩ := h2 a.block c e fz hw
   rw [q1]
  | _ =>
   have := h3 a.block _ hw (fun c e fz he => by cases he)
   rw [this]
theorem Jpw {P : Program} {F : Orc} (hF : J5q P F) {f : FuncId} {args : List AV} {vals : Array Value} {w : World} (hl : args.length = vals.size)
  (hr : ∀ (i : Nat) x v, args[i]? = some x → vals[i]? = some v → Jq ⟨[], gh0 w, w⟩ x v) (h : F f args [] = some (.p (.b true), [])) :
  Calls P f vals w fun e w' => e = .returned (.bool true) ∧ Jc9 w w' := by
 refine ((hF _ _ _ _ h).2 (gh0 w) w vals (Jw2 w) hl hr).mono fun e w' ⟨v, g', he, _, ht, hrel⟩ => ?_
 cases hrel with
 | p _ _ hrel =>
  cases hrel with
  | b =>
   refine ⟨he, ?_⟩
   obtain ⟨k1, k2, k3, k4⟩ := ht.keep
   refine ⟨k1, fun r c e fz hr => ?_, k3, k4⟩
   obtain ⟨c', q1, q2, q3⟩ := k2 r c e fz hr
   exact ⟨c', q1, q2, fun o _ => q3 o (fun ⟨b, hb⟩ => JiW _ _ _ _ _ hb)⟩
section
variable {H : Type} {enc : TypeId × Value → H} {P : Program}
theorem Jeg (hl : laidOutB P = true) (hm : mapsRowed P = true) (hsz : ∀ {t e : TypeId}, t < P.types.size → P.underlying t = some (.slice e) → 0 < P.cellsOf e) {W W' : World} {sp : Nat → Bool} :
  ∀ {ts : List TypeId} {vs : List Value} {ds : List (DataW H)} {ps : List MemPlace}, (∀ t ∈ ts, t < P.types.size) → DataW.TrodAll enc P W 0 (fun _ => true) true ts vs ds ps →
   (∀ p ∈ ps, W.sameAt W' p) → (∀ p ∈ ps, sp p.block = true) → DataW.TrodAll enc P W' 0 sp true ts vs ds ps
 | [], [], [], _, _, h, _, _ => h
 | [], _ :: _, _, _, _, h, _, _ => h.elim
 | [], [], _ :: _, _, _, h, _, _ => h.elim
 | _ :: _, [], _, _, _, h, _, _ => h.elim
 | _ :: _, _ :: _, [], _, _, h, _, _ => h.elim
 | t :: ts, v :: vs, d :: ds, _, hT, ⟨p, q, ⟨n, h1⟩, h2, rfl⟩, hs, hp => by
  refine ⟨p, q, ⟨n, DataW.trod_stays (kids_rows hl hm) hsz (fun h => by cases h) (hT t (by simp)) h1 (fun x hx => hs x (by simp [hx])) (fun x hx => hp x (by simp [hx]))⟩, ?_, rfl⟩
  exact Jeg hl hm hsz (fun x hx => hT x (by simp [hx])) h2 (fun x hx => hs x (by simp [hx])) (fun x hx => hp x (by simp [hx]))
def JaE (P : Program) : Bool := (List.range P.types.size).all fun t => match P.underlying t with
 | some (.slice e) => decide (0 < P.cellsOf e)
 | _ => true
theorem JlT (h : JaE P = true) {t e : TypeId} (ht : t < P.types.size) (he : P.underlying t = some (.slice e)) : 0 < P.cellsOf e := by
 unfold JaE at h
 rw [List.all_eq_true] at h
 have := h t (by simpa using ht)
 rw [he] at this
 simpa using this
theorem JrU {fn : Func} {s : ChangeSpec} {tb : TypeId} (hl : laidOutB P = true) (hm : mapsRowed P = true) (hsz : JaE P = true) (hpar : ∀ t ∈ fn.params.toList, t < P.types.size)
  (hres : fn.resultTypes = #[tb]) (htb : P.underlying tb = some .bool) (hvars : s.vars = []) {apart fresh handsOn again : Bool} {W W' : World} {args : Array Value} {ds gs : List (DataW H)} {before : List MemPlace}
  (hfn : gs = [] → s.fn H (ds ++ gs) = { results := [.lit (.bool true)], args := ds })
  (hW : DataW.Whole enc P fn.params.toList s.vars apart W args.toList ds gs before) (hst : Jc9 W W') : s.post enc P fn apart fresh handsOn again W args (.bool true) W' := by
 have hW0 := hW
 have hlt := hW.lt
 obtain ⟨p, q, h1, h2, rfl, hz, hn⟩ := hW
 rw [hvars] at h2
 obtain ⟨rfl, rfl⟩ := trodVars_none h2
 rw [List.append_nil] at hW0 hlt hz hn
 have hf := hfn rfl
 have hargs : ∀ sp : Nat → Bool, (∀ x ∈ p, sp x.block = true) → DataW.TrodAll enc P W' 0 sp true fn.params.toList args.toList ds p := fun sp hp =>
  Jeg hl hm (fun ht he => JlT hsz ht he) hpar h1 (fun x hx => hst.same (hlt x hx)) hp
 have hr : ∀ (b : Nat) (sp : Nat → Bool) (hd : Bool), DataW.TrodAll enc P W' b sp hd fn.resultTypes.toList ((Value.bool true).resultList fn.resultTypes.size) [.lit (.bool true)] [] := by
  intro b sp hd
  rw [hres]
  exact trodAll_cons_mk (shut_bool htb _) trodAll_mk0
 refine ⟨ds, [], p, [], p, [], hW0, ?_, ?_, ?_, hst.kept _, fun _ => ⟨?_, ?_⟩⟩
 ·rw [hf]; exact hr _ _ _
 ·rw [hf]; exact hargs _ (fun x hx => by simpa using hlt x hx)
 ·rw [hf, hvars]; rfl
 ·exact ok_one hres rfl (okWide_bool_mk htb _)
 ·refine ⟨_, [], [] ++ p, ⟨[] ++ p, [], trodAll_append (hargs _ (fun _ _ => rfl)) (hr _ _ _), by rw [hvars]; rfl, by simp, fun b off hp => ?_, fun ha => by simpa using hn ha⟩, fun x hx _ => by simpa using hx⟩
  have hp' : MemPlace.cell b off ∈ p := by simpa using hp
  rw [hst.frozen (a := ⟨b, off, none⟩) (hlt _ hp')]
  exact hz b off hp'
def JoW (P : Program) (t : TypeId) (pvs : List PV) : AV := match P.underlying t with
 | some (.struct _) => .data pvs
 | some (.array _ _) => .data pvs
 | _ => match pvs with
  | [c] => .p c
  | _ => .unk
theorem JsN (hl : laidOutB P = true) (hm : mapsRowed P = true) {n : Nat} {t : TypeId} {w : World} {r : Reach} {base : Nat} {sp : Nat → Bool} {v : Value} {d : DataW H} {ps : List MemPlace} (hp : Jac P n t = true)
  (hv : Value.okWide P w r base t v) (h : DataW.Trod enc P w 0 sp true t v d ps) : ∃ pvs, J9W P n t pvs ∧ Jq ⟨[], gh0 w, w⟩ (JoW P t pvs) v := by
 obtain ⟨fuel, h⟩ := h
 obtain ⟨pvs, q1, q2, q3⟩ := JsJ hl hm n t _ _ fuel hp h
 refine ⟨pvs, q1, ?_⟩
 cases n with
 | zero => simp [Jac] at hp
 | succ n =>
  unfold Jac at hp
  unfold Value.okWide at hv
  unfold JoW
  have one : ∀ {c : PV}, pvs = [c] → (∀ cs, v ≠ .agg cs) → Jq ⟨[], gh0 w, w⟩ (.p c) v := by
   intro c hc hne
   subst hc
   refine .p _ _ (q3 0 c v rfl ?_)
   cases v <;> first | rfl | exact absurd rfl (hne _)
  unfold J9W at q1
  split at hp
  ·rename_i ht
   rw [ht] at q1 hv ⊢
   obtain ⟨b, rfl⟩ := q1
   exact one rfl (fun cs he => by subst he; simp [Cell.okWide, Cell.ok, ht] at hv)
  ·rename_i k ht
   rw [ht] at q1 hv ⊢
   obtain ⟨z, rfl, _⟩ := q1
   exact one rfl (fun cs he => by subst he; simp [Cell.okWide, Cell.ok, ht] at hv)
  ·rename_i ht
   rw [ht] at q1 hv ⊢
   obtain ⟨z, rfl, _⟩ := q1
   exact one rfl (fun cs he => by subst he; simp [Cell.okWide, Cell.ok, ht] at hv)
  ·rename_i e ht
   rw [ht] at q1 hv ⊢
   obtain ⟨rows, rfl, _⟩ := q1
   exact one rfl (fun cs he => by subst he; simp [Cell.okWide, Cell.ok, ht] at hv)
  ·rename_i fs ht
   rw [ht] at hv ⊢
   obtain ⟨cs, rfl, _⟩ := hv
   exact .data _ _ (by simpa [Value.cells] using q2) (fun i x v h1 h2 => q3 i x v h1 (by simpa [Value.cells] using h2))
  ·rename_i m e ht
   rw [ht] at hv ⊢
   obtain ⟨cs, rfl, _⟩ := hv
   exact .data _ _ (by simpa [Value.cells] using q2) (fun i x v h1 h2 => q3 i x v h1 (by simpa [Value.cells] using h2))
  ·cases hp
end
end Go.Am
end
