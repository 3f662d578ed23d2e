/-
  Parts of a proof.
-/
import Derived.ChangeArms
import Derived.OpenShut
import Derived.ChangeBears
import Derived.ChangeStays
import Derived.Handed
import Derived.RowKit3
import Derived.WalkKit
import Derived.ProofKit
import Derived.Test.YtiallbcnaadmoaaM4
import Derived.Test.YtiallbcnaadmoaaM12
set_option linter.unusedSimpArgs false
set_option linter.unusedVariables false
section
namespace Go.Am
set_option maxRecDepth 16000
set_option maxHeartbeats 2000000
def dOf (f : T_api_Frame) : Option T_api_Dirty := if f.Dirty = true then some ⟨f.Page.ID, f.Rec, f.Page.LSN⟩ else none
theorem Jly {l : List T_api_Dirty} {x : T_api_Dirty} (h : l.length ≤ 1000) : Jah 24 l [x] = some (l ++ [x]) := by
  have e : J3h (l.length + 1) 24 = true := by simp [J3h]; omega
  simp only [Jah, List.length_cons, List.length_nil, Nat.zero_add, e, if_true]
theorem Jqc {l : List T_api_Frame} (hl : l.length ≤ 500) {r : List T_api_Dirty} : ∀ (m k : Nat) (acc : List T_api_Dirty), k + m = l.length → acc.length ≤ k → J6f (acc ++ (l.drop k).filterMap dOf) = some r →
    Jbg l (l.length : Int) ((k : Int), acc) = some r := by
  intro m
  induction m with
  | zero =>
    intro k acc hk ha h
    obtain rfl : k = l.length := by omega
    have e1 : ¬ ((l.length : Nat) : Int) < (l.length : Int) := by omega
    rw [List.drop_length, List.filterMap_nil, List.append_nil] at h
    refine J2j ?_
    simp only [J5e, e1, decide_false, Bool.false_eq_true, if_false, h, Option.map_some]
  | succ m ih =>
    intro k acc hk ha h
    have hk' : k < l.length := by omega
    have e1 : ((k : Nat) : Int) < (l.length : Int) := by omega
    rw [List.drop_eq_getElem_cons hk', List.filterMap_cons] at h
    cases hd : l[k].Dirty with
    | true =>
      have e2 : dOf l[k] = some ⟨l[k].Page.ID, l[k].Rec, l[k].Page.LSN⟩ := by unfold dOf; rw [if_pos hd]
      rw [e2] at h
      refine (J2U ?_).trans (ih (k + 1) (acc ++ [⟨l[k].Page.ID, l[k].Rec, l[k].Page.LSN⟩]) (by omega) (by simp; omega) ?_)
      · simp only [J5e, e1, decide_true, if_true, J0P hk', Option.bind_some, hd, Jly (show acc.length ≤ 1000 by omega), J1R (show k < 1000000 by omega)]
      · rw [List.append_assoc]; exact h
    | false =>
      have e2 : dOf l[k] = none := by unfold dOf; rw [if_neg (by rw [hd]; decide)]
      rw [e2] at h
      refine (J2U ?_).trans (ih (k + 1) acc (by omega) (by omega) h)
      simp only [J5e, e1, decide_true, if_true, J0P hk', Option.bind_some, hd, Bool.false_eq_true, if_false, J1R (show k < 1000000 by omega)]
def JdD (l : List T_api_Frame) (id : Nat) : Option T_api_Dirty := (J5i l (id : Int)).bind fun k => (l[k]?).bind dOf
theorem Jko {p : T_api_Pool} (hl : p.Frames.length ≤ 64) : ∀ (m k : Nat) (acc : List T_api_Dirty), k + m = 64 → acc.length ≤ k →
    JaL p ((k : Int), acc) = some (acc ++ ((List.range' k m).filterMap (JdD p.Frames))) := by
  intro m
  induction m with
  | zero =>
    intro k acc hk ha
    obtain rfl : k = 64 := by omega
    have e1 : ¬ ((64 : Nat) : Int) < 64 := by omega
    refine J2j ?_
    simp only [J3F, e1, decide_false, Bool.false_eq_true, if_false, J8T, Option.map_some, List.range'_zero, List.filterMap_nil, List.append_nil]
  | succ m ih =>
    intro k acc hk ha
    have e1 : ((k : Nat) : Int) < 64 := by omega
    rw [List.range'_succ, List.filterMap_cons]
    have step : ∀ acc' : List T_api_Dirty, J4k (k : Int) p acc' = some (.inl (((k + 1 : Nat) : Int), acc')) := fun acc' => by
      simp only [J4k, J1R (show k < 1000000 by omega)]
    cases hf : J5i p.Frames (k : Int) with
    | none =>
      have ea : JdD p.Frames k = none := by unfold JdD; rw [hf]; rfl
      have c : ¬ (-1 : Int) ≥ 0 := by omega
      rw [ea]
      refine (J2U ?_).trans (ih (k + 1) acc (by omega) (by omega))
      simp only [J3F, e1, decide_true, if_true, JbB (show p.Frames.length < 1000000 by omega), hf, JcZ, Option.bind_some, c, decide_false, Bool.false_eq_true, if_false, step]
    | some j =>
      obtain ⟨hj, hid⟩ := Jau hf
      have c : (j : Int) ≥ 0 := by omega
      have ea : JdD p.Frames k = dOf p.Frames[j] := by
        unfold JdD
        rw [hf, Option.bind_some, List.getElem?_eq_getElem hj, Option.bind_some]
      rw [ea]
      cases hd : p.Frames[j].Dirty with
      | true =>
        have e2 : dOf p.Frames[j] = some ⟨(k : Int), p.Frames[j].Rec, p.Frames[j].Page.LSN⟩ := by unfold dOf; rw [if_pos hd, hid]
        rw [e2]
        have := ih (k + 1) (acc ++ [⟨(k : Int), p.Frames[j].Rec, p.Frames[j].Page.LSN⟩]) (by omega) (by simp; omega)
        rw [List.append_assoc] at this
        refine (J2U ?_).trans this
        simp only [J3F, e1, decide_true, if_true, JbB (show p.Frames.length < 1000000 by omega), hf, JcZ, Option.bind_some, c, J0P hj, hd, Jly (show acc.length ≤ 1000 by omega), step]
      | false =>
        have e2 : dOf p.Frames[j] = none := by unfold dOf; rw [if_neg (by rw [hd]; decide)]
        rw [e2]
        refine (J2U ?_).trans (ih (k + 1) acc (by omega) (by omega))
        simp only [J3F, e1, decide_true, if_true, JbB (show p.Frames.length < 1000000 by omega), hf, JcZ, Option.bind_some, c, J0P hj, hd, Bool.false_eq_true, if_false, step]
theorem Ji4 : ∀ {l : List Int}, l.Pairwise (· ≠ ·) → J7X l = true
  | [], _ => rfl
  | x :: l, h => by
    obtain ⟨h1, h2⟩ := List.pairwise_cons.1 h
    have : x ∉ l := fun hx => h1 x hx rfl
    simp [J7X, Ji4 h2, this]
theorem JoL {l : List T_api_Frame} (uq : ∀ (i j : Nat) (hi : i < l.length) (hj : j < l.length), l[i].Page.ID = l[j].Page.ID → i = j) : (l.filterMap dOf).Pairwise fun a b => a.Page ≠ b.Page := by
  rw [List.pairwise_filterMap]
  rw [List.pairwise_iff_getElem]
  intro i j hi hj hij a ha b hb e
  unfold dOf at ha hb
  split at ha
  · injection ha with ha
    split at hb
    · injection hb with hb
      subst ha hb
      have := uq i j hi hj e
      omega
    · cases hb
  · cases ha
theorem Jro (p : T_api_Pool) : ∃ r, J5w p = some r ∧ J4M p = some r ∧ r.length ≤ 1000 := by
  rcases J7m p with ⟨hp, h1, h2⟩ | ⟨h1, h2⟩
  · have h64 := hp.len
    have hpw := JoL hp.uq
    have hlen : (p.Frames.filterMap dOf).length ≤ 64 := Nat.le_trans (List.length_filterMap_le _ _) h64
    have hd : J7X ((p.Frames.filterMap dOf).map fun x => x.Page) = true := Ji4 (by rw [List.pairwise_map]; exact hpw)
    obtain ⟨o, ho⟩ : ∃ o, o = (p.Frames.filterMap dOf).mergeSort (keyLe fun x : T_api_Dirty => x.Page) := ⟨_, rfl⟩
    have hs : J9F (fun x : T_api_Dirty => x.Page) (p.Frames.filterMap dOf) = some o := by
      unfold J9F
      rw [if_pos ⟨by omega, hd⟩, ho]
    have e1 : J6f ([] ++ (p.Frames.drop 0).filterMap dOf) = some o := by
      rw [List.drop_zero, List.nil_append]
      unfold J6f J1x
      rw [hs]
      rfl
    have a1 := Jqc (show p.Frames.length ≤ 500 by omega) p.Frames.length 0 [] (by omega) (by simp) e1
    have a2 := Jko h64 64 0 [] (by omega) (by simp)
    have hm := List.mergeSort_perm (p.Frames.filterMap dOf) (keyLe fun x : T_api_Dirty => x.Page)
    rw [← ho] at hm
    have so : o.Pairwise fun x y => x.Page < y.Page := Jg5 (key := fun x : T_api_Dirty => x.Page) hm hd (by
      have := List.pairwise_mergeSort (le := keyLe fun x : T_api_Dirty => x.Page) (fun a b c h1 h2 => by simp only [keyLe, decide_eq_true_eq] at *; omega) (fun a b => by simp only [keyLe, Bool.or_eq_true, decide_eq_true_eq]; omega) (p.Frames.filterMap dOf)
      rw [← ho] at this
      exact this.imp fun h => by simpa [keyLe] using h)
    have page_at : ∀ (id : Nat) (x : T_api_Dirty), JdD p.Frames id = some x → x.Page = (id : Int) ∧ ∃ k, ∃ hk : k < p.Frames.length, dOf p.Frames[k] = some x := by
      intro id x hx
      unfold JdD at hx
      obtain ⟨k, hk, hx⟩ := Option.bind_eq_some_iff.1 hx
      obtain ⟨hk', hid⟩ := Jau hk
      rw [List.getElem?_eq_getElem hk', Option.bind_some] at hx
      refine ⟨?_, k, hk', hx⟩
      unfold dOf at hx
      split at hx
      · injection hx with hx
        rw [← hx]; exact hid
      · cases hx
    have sr : ((List.range' 0 64).filterMap (JdD p.Frames)).Pairwise fun x y => x.Page < y.Page := by
      rw [List.pairwise_filterMap]
      refine (List.pairwise_lt_range' (s := 0) (n := 64)).imp fun {a b} hab x hx y hy => ?_
      have := (page_at a x hx).1
      have := (page_at b y hy).1
      omega
    have same : o = (List.range' 0 64).filterMap (JdD p.Frames) := by
      refine JbM (key := fun x : T_api_Dirty => x.Page) so sr fun x => ?_
      rw [hm.mem_iff, List.mem_filterMap, List.mem_filterMap]
      constructor
      · rintro ⟨f, hf, hx⟩
        obtain ⟨k, hk, rfl⟩ := List.getElem_of_mem hf
        have hpg := (hp.fr k hk).page
        have i0 := hpg.id0
        have i1 := hpg.id1
        obtain ⟨id, hid⟩ : ∃ id : Nat, p.Frames[k].Page.ID = (id : Int) := ⟨p.Frames[k].Page.ID.toNat, by omega⟩
        refine ⟨id, by rw [List.mem_range']; exact ⟨id, by omega, by omega⟩, ?_⟩
        unfold JdD
        rw [← hid, JiO hp.uq hk, Option.bind_some, List.getElem?_eq_getElem hk, Option.bind_some]
        exact hx
      · rintro ⟨id, _, hx⟩
        obtain ⟨_, k, hk, hd⟩ := page_at id x hx
        exact ⟨p.Frames[k], List.getElem_mem hk, hd⟩
    have hol : o.length ≤ 1000 := by rw [hm.length_eq]; omega
    simp only [J5w, J4M, h1, h2, Option.bind_some, if_true]
    refine ⟨o, a1, ?_, hol⟩
    rw [same]
    exact a2
  · simp only [J5w, J4M, h1, h2, Option.bind_some, Bool.false_eq_true, if_false]
    exact ⟨_, rfl, rfl, by show 0 ≤ 1000; omega⟩
end Go.Am
end
section
namespace Go.Am
set_option maxRecDepth 16000
set_option maxHeartbeats 2000000
theorem Jf0 {σ ρ α : Type} {f : Int × σ → Option ((Int × σ) ⊕ ρ)} {l : List α} (I : σ → Prop) {Q : ρ → Prop} (hl : l.length < 1000000)
    (h1 : ∀ (k : Nat) (s : σ), k < l.length → I s → Tot (f ((k : Int), s)) fun r => ∃ s', r = .inl (IntKind.wrap .i64 ((k : Int) + 1), s') ∧ I s')
    (h2 : ∀ s, I s → Tot (f ((l.length : Int), s)) fun r => ∃ o, r = .inr o ∧ Q o) {s : σ} (hs : I s) : Tot (JO f ((0 : Int), s)) Q := by
  obtain ⟨o, ho, hq⟩ := J2v (f := f) (fun s => ∃ j : Nat, s.1 = j ∧ j ≤ l.length ∧ I s.2) (fun s => (l.length - s.1).toNat) (fun o => Q o) (fun s ⟨j, hj, h4, hc⟩ => by
    obtain ⟨q, c⟩ := s
    simp only at hj hc
    subst hj
    by_cases hlt : j < l.length
    · left
      obtain ⟨r, e, b', rfl, hb'⟩ := h1 j c hlt hc
      rw [J1R (by omega)] at e
      exact ⟨_, e, ⟨j + 1, rfl, by omega, hb'⟩, by show ((l.length : Int) - ((j + 1 : Nat) : Int)).toNat < ((l.length : Int) - (j : Int)).toNat; omega⟩
    · right
      have hj : j = l.length := by omega
      subst hj
      obtain ⟨r, e, o, rfl, hq⟩ := h2 c hc
      exact ⟨o, e, hq⟩) ((0 : Int), s) ⟨0, rfl, by omega, hs⟩
  exact ⟨o, ho, hq⟩
theorem JlZ {b : T_pagemenddraw_Codes} (hb : J03 b) (id : Int) : Drw (J3s b id) fun _ => True := by
  have go : ∀ (b : T_pagemenddraw_Codes) (b1 p : T_api_Page), J03 b → Drw (J3I b b1 p) fun _ => True := by
    intro b b1 p hb
    unfold J3I
    by_cases hl : p.LSN > 0
    · obtain ⟨r, b2, e1, hb2, hr0, hr1⟩ := J3e hb (n := 6) (by omega) (by omega)
      obtain ⟨o, ho, hq⟩ := J2v (f := fun s : Int × T_pagemenddraw_Codes × T_api_Page => J2N b1 s.1 s.2.1 s.2.2)
        (fun s => 0 ≤ s.1 ∧ s.1 ≤ 6 ∧ J03 s.2.1) (fun s => s.1.toNat) (fun r => J03 r.2)
        (fun s ⟨i0, i1, hc⟩ => by
          obtain ⟨i, b, p⟩ := s
          simp only at i0 i1 hc
          by_cases hi : i > 0
          · left
            obtain ⟨r, b2, e1, hb2, hr0, hr1⟩ := J3e hc (n := 16) (by omega) (by omega)
            obtain ⟨c, b3, e2, hb3, hcf⟩ := Jln hb2
            obtain ⟨k, rfl⟩ : ∃ k : Nat, r = (k : Int) := ⟨r.toNat, by omega⟩
            have hk : k < 16 := by omega
            refine ⟨⟨i - 1, b3, ⟨p.ID, p.LSN, Jbh p.Cells (k : Int) c⟩⟩, ?_, ⟨by show 0 ≤ i - 1; omega, by show i - 1 ≤ 6; omega, hb3⟩, by show (i - 1).toNat < i.toNat; omega⟩
            simp only [J2N, hi, decide_true, if_true, e1, e2, Option.bind_some, Jbo hk, J7d _ k hk, J7E (show -9223372036854775808 ≤ i - 1 by omega) (by omega)]
          · right
            exact ⟨(p, b), by simp [J2N, J3J, hi], hc⟩)
        (r, b2, p) ⟨hr0, by show r ≤ 6; omega, hb2⟩
      refine ⟨o, ?_, hq, trivial⟩
      simp only [hl, decide_true, if_true, e1, Option.bind_some]
      exact ho
    · exact ⟨(p, b), by simp [hl, J3J], hb, trivial⟩
  unfold J3s
  exact .bind (J5s hb (by omega) (by omega)) fun r1 ⟨h1, _⟩ => .bind (J5s h1 (by omega) (by omega)) fun r2 ⟨h2, _⟩ => .both (.bind (J5s h2 (by omega) (by omega)) fun r3 ⟨h3, _⟩ => go _ _ _ h3) (go _ _ _ h2)
theorem JlD {b : T_pagemenddraw_Codes} (hb : J03 b) (p : T_api_Page) : Drw (J1E b p) fun _ => True := Jpm (Juc hb p)
theorem Jvv {b : T_pagemenddraw_Codes} (hb : J03 b) : Drw (J3o b) fun p => p.Frames.length ≤ 1000 := by
  unfold J3o
  refine .bind (J5s hb (by omega) (by omega)) fun r1 ⟨h1, _⟩ => ?_
  obtain ⟨r, _, e, hr⟩ := JpH (IntKind.wrap .i64 (1 + r1.1))
  refine .eq e (.bind (J5s h1 (by omega) (by omega)) fun r2 ⟨h2, q2⟩ => ?_)
  obtain ⟨o, ho, hq⟩ := J2v (f := fun s : Int × T_pagemenddraw_Codes × T_api_Pool => J1V ⟨0, [], 0⟩ s.1 s.2.1 s.2.2)
    (fun s => 0 ≤ s.1 ∧ s.1 ≤ 10 ∧ J03 s.2.1 ∧ s.2.2.Frames.length ≤ 1000) (fun s => s.1.toNat) (fun r => J03 r.2 ∧ r.1.Frames.length ≤ 1000)
    (fun s ⟨i0, i1, hc, hl⟩ => by
      obtain ⟨i, b, p⟩ := s
      simp only at i0 i1 hc hl
      by_cases hi : i > 0
      · left
        have st : ∀ (b' : T_pagemenddraw_Codes) (q : T_api_Pool), J03 b' → q.Frames.length ≤ 1000 → Tot (J0n i b' ⟨0, [], 0⟩ q) fun r => ∃ s' : Int × T_pagemenddraw_Codes × T_api_Pool, r = .inl s' ∧ s'.1 = i - 1 ∧ J03 s'.2.1 ∧ s'.2.2.Frames.length ≤ 1000 := fun b' q hb' hq =>
          ⟨_, rfl, _, rfl, J7E (by omega) (by omega), hb', hq⟩
        have t : Tot (J1V ⟨0, [], 0⟩ i b p) fun r => ∃ s' : Int × T_pagemenddraw_Codes × T_api_Pool, r = .inl s' ∧ s'.1 = i - 1 ∧ J03 s'.2.1 ∧ s'.2.2.Frames.length ≤ 1000 := by
          unfold J1V
          simp only [hi, decide_true, if_true]
          refine .bind (J5s hc (by omega) (by omega)) fun r1 ⟨h1, q1⟩ => .bind (J5s h1 (by omega) (by omega)) fun r2 ⟨h2, _⟩ => .both ?_ (.both ?_ (.both ?_ ?_))
          · obtain ⟨v, _, e, hv⟩ := Jk3 p
            exact .eq e (.both (st _ _ h2 hv) (st _ _ h2 hl))
          · obtain ⟨g, _, e⟩ := Jl5 p r1.1
            refine .eq e (.both (.bind (J5s h2 (by omega) (by omega)) fun r3 ⟨h3, _⟩ => ?_) (st _ _ h2 hl))
            obtain ⟨u, _, e2, hu⟩ := Jkd p ⟨g.1.ID, IntKind.wrap .i64 (g.1.LSN + IntKind.wrap .i64 (1 + r3.1)), g.1.Cells⟩
            exact .eq e2 (.both (st _ _ h3 hu) (st _ _ h3 hl))
          · obtain ⟨g, _, e⟩ := Jl5 p r1.1
            refine .eq e (.both (.bind (J5s h2 (by omega) (by omega)) fun r3 ⟨h3, _⟩ => ?_) (st _ _ h2 hl))
            obtain ⟨u, _, e2, hu⟩ := JlN p r1.1 (IntKind.wrap .i64 (g.1.LSN - r3.1))
            exact .eq e2 (.both (st _ _ h3 hu) (st _ _ h3 hl))
          · refine .bind (JlZ h2 r1.1) fun r3 ⟨h3, _⟩ => ?_
            obtain ⟨u, _, e2, hu⟩ := JpL p r3.1
            exact .eq e2 (.both (st _ _ h3 hu) (st _ _ h3 hl))
        obtain ⟨r, e, s', rfl, a1, a2, a3⟩ := t
        exact ⟨s', e, ⟨by omega, by omega, a2, a3⟩, by show s'.1.toNat < i.toNat; omega⟩
      · right
        exact ⟨(p, b), by simp [J1V, J6y, hi], hc, hl⟩) (r2.1, r2.2, r.1) ⟨q2.1, by show r2.1 ≤ 10; omega, h2, hr⟩
  exact ⟨o, ho, hq⟩
theorem JrC {b : T_pagemenddraw_Codes} (hb : J03 b) {p : T_api_Pool} (hp : p.Frames.length ≤ 1000) : Drw (J7c b p) fun q => q.Frames.length ≤ 1000 := by
  unfold J7c
  refine .eq (Jcp hp) (.ite (fun c => ?_) fun c => ?_)
  · exact .bind (JtB hb) fun r1 ⟨h1, _⟩ => .bind (J5s h1 (by omega) (by omega)) fun r2 ⟨h2, _⟩ => .some ⟨h2, hp⟩
  · have hne : p.Frames.length ≠ 0 := by simpa using c
    refine .bind (J5s hb (by omega) (by omega)) fun r1 ⟨h1, _⟩ => .both ?_ ?_
    · exact .bind (JtB h1) fun r1 ⟨h1, _⟩ => .bind (J5s h1 (by omega) (by omega)) fun r2 ⟨h2, _⟩ => .some ⟨h2, hp⟩
    · refine .bind (JuD h1 (by omega) (by omega)) fun r2 ⟨h2, q2⟩ => ?_
      obtain ⟨k, hk⟩ : ∃ k : Nat, r2.1 = (k : Int) := ⟨r2.1.toNat, by omega⟩
      rw [hk]
      have hk' : k < p.Frames.length := by omega
      refine .eq (J0P hk') (.bind (J5s h2 (by omega) (by omega)) fun r3 ⟨h3, _⟩ => .both ?_ (.both ?_ (.both ?_ (.both ?_ ?_))))
      · exact .bind (JlD h3 _) fun r4 ⟨h4, _⟩ => .eq rfl (.some ⟨h4, by simpa using hp⟩)
      · exact .eq rfl (.some ⟨h3, by simpa using hp⟩)
      · exact .bind (J5s h3 (by omega) (by omega)) fun r4 ⟨h4, _⟩ => .eq rfl (.some ⟨h4, by simpa using hp⟩)
      · exact .bind (J5s h3 (by omega) (by omega)) fun r4 ⟨h4, _⟩ => .eq rfl (.some ⟨h4, by simpa using hp⟩)
      · exact .some ⟨h3, hp⟩
end Go.Am
end
section
namespace Go.Am
set_option maxRecDepth 16000
set_option maxHeartbeats 2000000
abbrev JjQ {ρ : Type} (k : Int) (o : Option ((Int × T_pagemenddraw_Codes) ⊕ ρ)) : Prop := Tot o fun r => ∃ b, r = .inl (IntKind.wrap .i64 (k + 1), b) ∧ J03 b
theorem Jf7 {p : T_api_Pool} (h : p.Frames.length ≤ 1000) : J1K p p = some true := JrU p (by omega)
theorem Jrx {l : List T_api_Dirty} (h : l.length ≤ 1000) : J3p l l = some true := by
  have e : J8D l l 0 = some true := by
    refine JjV (f := fun s => J2S l l s) (l := l) (by omega) (fun k hk => ?_) ?_
    · have e1 : ((k : Nat) : Int) < (l.length : Int) := by omega
      simp only [J2S, e1, decide_true, if_true, J0P hk, Option.bind_some, beq_self_eq_true, J1R (show k < 1000000 by omega)]
    · have e1 : ¬ ((l.length : Nat) : Int) < (l.length : Int) := by omega
      simp only [J2S, e1, decide_false, Bool.false_eq_true, if_false, J6v, Option.map_some]
  simp only [J3p, bne_self_eq_false, Bool.false_eq_true, if_false, e]
section
variable (x3 x4 x16 : Int) (x60 : List T_api_Pool) (x61 x62 : Int) (x82 : List Int) (x83 x84 : Int) (b1 : T_api_Page) {b2 : T_pagemenddraw_Codes} (b4 : T_api_Pool) (b6 : T_api_Page) (b7 b8 : T_api_Pool)
theorem x1 (hb : J03 b2) {l : List T_api_Page} (hn : l.length < 1000000) : JjQ x84 (J8G x3 x4 x60 x61 x62 x82 x83 x84 l ((l.length : Nat) : Int) b1 b2 b4 (0, b7, b8)) := by
  refine Jf0 (f := fun s => J2L x3 x4 x60 x61 x62 x82 x83 x84 l ((l.length : Nat) : Int) b1 b2 b4 s.1 s.2.1 s.2.2) (fun _ => True) hn (fun k s hk _ => ?_) (fun s _ => ?_) trivial
  · have e1 : ((k : Nat) : Int) < ((l.length : Nat) : Int) := by omega
    obtain ⟨r, d1, d2, d3⟩ := JpL b4 l[k]
    obtain ⟨u, d4, d5, d6⟩ := Jkd b4 l[k]
    simp only [J2L, e1, decide_true, if_true, J0P hk, Option.bind_some, d1, d2, d4, d5, bne_self_eq_false, Bool.false_eq_true, if_false, Jf7 d3, Jf7 d6]
    exact .some ⟨_, rfl, trivial⟩
  · have e1 : ¬ ((l.length : Nat) : Int) < ((l.length : Nat) : Int) := by omega
    simp only [J2L, e1, decide_false, Bool.false_eq_true, if_false, J6u, Option.map_some]
    exact .some ⟨_, rfl, b2, rfl, hb⟩
theorem x2 (hb : J03 b2) : JjQ x84 (J4W x3 x4 x16 x60 x61 x62 x82 x83 x84 b1 b2 b4 b6 b7 b8) := by
  unfold J4W
  exact .bind (J5s hb (by omega) (by omega)) fun r1 ⟨h1, _⟩ => .bind (JlZ h1 _) fun r2 ⟨h2, _⟩ => .bind (JlD h2 _) fun r3 ⟨h3, _⟩ => x1 x3 x4 x60 x61 x62 x82 x83 x84 b1 b4 b7 b8 h3 (by simp)
theorem x0 (hb : J03 b2) {l : List Int} (hn : l.length < 1000000) : JjQ x84 (J8E x3 x4 x16 x60 x61 x62 x82 x83 x84 l ((l.length : Nat) : Int) b1 b2 b4 b6 (0, b7, b8)) := by
  refine Jf0 (f := fun s => J2M x3 x4 x16 x60 x61 x62 x82 x83 x84 l ((l.length : Nat) : Int) b1 b2 b4 b6 s.1 s.2.1 s.2.2) (fun _ => True) hn (fun k s hk _ => ?_) (fun s _ => ?_) trivial
  · have e1 : ((k : Nat) : Int) < ((l.length : Nat) : Int) := by omega
    obtain ⟨r, d1, d2, d3⟩ := JlN b4 x16 l[k]
    simp only [J2M, e1, decide_true, if_true, J0P hk, Option.bind_some, d1, d2, bne_self_eq_false, Bool.false_eq_true, if_false, Jf7 d3]
    exact .some ⟨_, rfl, trivial⟩
  · have e1 : ¬ ((l.length : Nat) : Int) < ((l.length : Nat) : Int) := by omega
    simp only [J2M, e1, decide_false, Bool.false_eq_true, if_false]
    exact .map (x2 x3 x4 x16 x60 x61 x62 x82 x83 x84 b1 b4 b6 s.1 s.2 hb) fun r hr => ⟨r, rfl, hr⟩
theorem x5 (hb : J03 b2) : JjQ x62 (J4Y x3 x4 x60 x61 x62 b1 b2 b4) := by
  obtain ⟨r, d1, d2, d3⟩ := Jk3 b4
  simp only [J4Y, d1, d2, Option.bind_some, bne_self_eq_false, Bool.false_eq_true, if_false, Jf7 d3, if_true, J6t]
  exact .some ⟨b2, rfl, hb⟩
theorem x4' (h4 : b4.Frames.length ≤ 1000) (hb : J03 b2) {l : List Int} (hn : l.length < 1000000) : JjQ x62 (J8J x3 x4 x60 x61 x62 l ((l.length : Nat) : Int) b1 b4 (0, b2)) := by
  refine Jf0 (f := fun s => J2P x3 x4 x60 x61 x62 l ((l.length : Nat) : Int) b1 b4 s.1 s.2) J03 hn (fun k b hk hc => ?_) (fun b hc => ?_) hb
  · have e1 : ((k : Nat) : Int) < ((l.length : Nat) : Int) := by omega
    obtain ⟨g, d1, d2⟩ := Jl5 b4 l[k]
    obtain ⟨f, d3, d4⟩ := Jsz b4 l[k]
    obtain ⟨u, d5, d6, d7⟩ := Ju2 b4 h4 l[k]
    obtain ⟨r, d8, d9, d10⟩ := Jtf b4 l[k]
    simp only [J2P, e1, decide_true, if_true, J0P hk, Option.bind_some, d1, d2, d3, d4, d5, d6, d8, d9, beq_self_eq_true, bne_self_eq_false, Bool.false_eq_true, if_false, Jf7 d7, Jf7 d10]
    exact x0 x3 x4 l[k] x60 x61 x62 l ((l.length : Nat) : Int) (k : Int) b1 b4 g.1 r.1 r.1 hc (by simp)
  · have e1 : ¬ ((l.length : Nat) : Int) < ((l.length : Nat) : Int) := by omega
    simp only [J2P, e1, decide_false, Bool.false_eq_true, if_false]
    exact .map (x5 x3 x4 x60 x61 x62 b1 b4 hc) fun r hr => ⟨r, rfl, hr⟩
theorem x8 : J4V x3 = some true := by
  obtain ⟨r, d1, d2, d3⟩ := JpH x3
  simp only [J4V, d1, d2, Option.bind_some, beq_self_eq_true, if_true, Jf7 d3]
theorem Jq7 (p : T_api_Pool) : ∃ b, J0J p = some b ∧ J0D p = some b := by
  rcases J7m p with ⟨_, h1, h2⟩ | ⟨h1, h2⟩
  · exact ⟨true, h1, h2⟩
  · exact ⟨false, h1, h2⟩
theorem x7 (hb : J03 b2) {l : List T_api_Pool} (hn : l.length < 1000000) (hl : ∀ p ∈ l, p.Frames.length ≤ 1000) : Tot (J6w x3 x4 l ((l.length : Nat) : Int) b1 (0, b2)) fun r => r = true := by
  refine Jf0 (f := fun s => J2K x3 x4 l ((l.length : Nat) : Int) b1 s.1 s.2) J03 hn (fun k b hk hc => ?_) (fun b hc => ?_) hb
  · have e1 : ((k : Nat) : Int) < ((l.length : Nat) : Int) := by omega
    obtain ⟨v, d1, d2⟩ := Jq7 l[k]
    obtain ⟨y, d3, d4, d5⟩ := Jro l[k]
    simp only [J2K, e1, decide_true, if_true, J0P hk, Option.bind_some, d1, d2, d3, d4, beq_self_eq_true, Jrx d5]
    exact .bind (J5s hc (by omega) (by omega)) fun r1 ⟨h1, _⟩ => x4' x3 x4 l ((l.length : Nat) : Int) (k : Int) b1 l[k] (hl _ (List.getElem_mem hk)) h1 (by simp)
  · have e1 : ¬ ((l.length : Nat) : Int) < ((l.length : Nat) : Int) := by omega
    simp only [J2K, e1, decide_false, Bool.false_eq_true, if_false, x8, Option.map_some]
    exact .some ⟨_, rfl, rfl⟩
end
theorem Jhe {l : List Int} {raw : T_api_Pool} {x : T_api_Page} {id lsn : Int} {q1 q2 q3 q4 : Prop} (h : List.length l ≤ maxLen ∧ ∀ x ∈ l, 0 ≤ x ∧ x ≤ 255) (_ : q1) (_ : q2) (_ : q3) (_ : q4) : J5T l raw x id lsn = some true := by
  unfold J5T
  simp only [Jq1, Option.bind_some, if_true]
  by_cases c1 : ((raw.Frames.length : Nat) : Int) > 20
  · simp only [c1, decide_true, if_true]
  simp only [c1, decide_false, Bool.false_eq_true, if_false]
  obtain ⟨b0, a1, hb0⟩ := Jv0 h (n := 200) (by omega)
  have a1' : J5U l 200 = some b0 := a1
  have t : Tot (Option.bind (J5U l 200) fun r6 => Option.bind (J3o r6) fun r9 => Option.bind (J7c r9.2 r9.1) fun r12 =>
      J6w id lsn ([raw, r9.1, r12.1] : List T_api_Pool) ((List.length ([raw, r9.1, r12.1] : List T_api_Pool) : Nat) : Int) x (0, r12.2)) fun r => r = true := by
    refine .eq a1' (.bind (Jvv hb0) fun r1 ⟨h1, q1⟩ => .bind (JrC h1 q1) fun r2 ⟨h2, q2⟩ => x7 id lsn x h2 (by simp) fun p hp => ?_)
    simp only [List.mem_cons, List.not_mem_nil, or_false] at hp
    rcases hp with rfl | rfl | rfl
    · omega
    · exact q1
    · exact q2
  obtain ⟨r, e, rfl⟩ := t
  exact e
end Go.Am
end
section
namespace Go.Am
section
variable (P : Program)
def JaB : Nat → TypeId → Bool
  | 0, _ => false
  | n + 1, t => match P.underlying t with
    | some .bool => true
    | some (.int _) => true
    | some .string => true
    | some (.slice e) => JaB n e && decide (t < P.types.size ∧ 0 < P.cellsOf e)
    | some (.struct fs) => fs.toList.all (fun f => JaB n f.type) && decide (t < P.types.size)
    | some (.array _ e) => JaB n e && decide (t < P.types.size)
    | _ => false
def J6z : Nat → TypeId → List PV → Prop
  | 0, _, _ => False
  | n + 1, t, pvs => match P.underlying t with
    | some .bool => ∃ b, pvs = [.b b]
    | some (.int k) => ∃ z, pvs = [.i k z] ∧ (Lit.int k z).wf = true
    | some .string => ∃ l, pvs = [.s l] ∧ l.length ≤ maxLen
    | some (.slice e) => ∃ rows, pvs = [.sl (P.cellsOf e) rows] ∧ rows.length ≤ maxLen ∧ ∀ row ∈ rows, row.length = P.cellsOf e ∧ J6z n e row
    | some (.struct fs) => pvs.length = P.cellsOf t ∧ ∀ f ∈ fs.toList, J6z n f.type ((pvs.drop f.offset).take (P.cellsOf f.type))
    | some (.array m e) => pvs.length = P.cellsOf t ∧ ∀ i, i < m → J6z n e ((pvs.drop (i * P.cellsOf e)).take (P.cellsOf e))
    | _ => False
end
section
variable {H : Type} {enc : TypeId × Value → H} {P : Program} {w : World} {base : Nat} {sp : Nat → Bool} {held : Bool}
def JqI (w : World) (pvs : List PV) (cs : List Value) : Prop :=
  pvs.length = cs.length ∧ ∀ (i : Nat) p v, pvs[i]? = some p → cs[i]? = some v → J07 w (fun r _ => r < w.heap.size) p v
theorem Jm3 {a : Addr} {v : Value} (h : w.cell? a = some v) : a.spot = none ∧ J0r w a.block a.off = some v ∧ a.block < w.heap.size := by
  unfold World.cell? at h
  unfold J0r
  split at h
  · rename_i c t fz hb
    split at h
    · cases h
    · rename_i hs
      refine ⟨by simpa using hs, by rw [hb]; exact h, ?_⟩
      have := Array.getElem?_eq_some_iff.1 hb
      exact this.1
  · cases h
theorem JsQ {a : Addr} {n : Nat} {cs : List Value} (h : w.cells? base a n = some cs) : cs.length = n ∧ ∀ i v, cs[i]? = some v → w.cell? (a.add i) = some v := by
  unfold World.cells? at h
  split at h
  · have hl := mapM_some_length h
    refine ⟨by simpa using hl, fun i v hv => ?_⟩
    have hi : i < n := by
      have := (List.getElem?_eq_some_iff.1 hv).1
      simp at hl; omega
    have := mapM_some_get h i i (by simp [hi])
    rw [this, hv]
  · cases h
theorem JjN {α : Type} (Q : Nat → α → Prop) : ∀ (m : Nat), (∀ i, i < m → ∃ x, Q i x) → ∃ xs : List α, xs.length = m ∧ ∀ i x, xs[i]? = some x → Q i x
  | 0, _ => ⟨[], rfl, fun i x h => by simp at h⟩
  | m + 1, h => by
    obtain ⟨xs, hl, hx⟩ := JjN Q m (fun i hi => h i (by omega))
    obtain ⟨y, hy⟩ := h m (by omega)
    refine ⟨xs ++ [y], by simp [hl], fun i x hi => ?_⟩
    rcases Nat.lt_or_ge i xs.length with hlt | hge
    · rw [List.getElem?_append_left hlt] at hi; exact hx i x hi
    · rw [List.getElem?_append_right hge] at hi
      have : i - xs.length = 0 := by
        have := (List.getElem?_eq_some_iff.1 hi).1
        simp at this; omega
      rw [this] at hi
      simp at hi; subst hi
      obtain rfl : i = m := by omega
      exact hy
theorem Jgt {α : Type} : ∀ (xs : List (List α)) (j : Nat) (y : List α), xs[j]? = some y → (xs.flatten.drop ((xs.take j).map List.length).sum).take y.length = y
  | [], j, y, h => by simp at h
  | x :: xs, 0, y, h => by simp at h; subst h; simp
  | x :: xs, j + 1, y, h => by
    simp at h
    have := Jgt xs j y h
    simp only [List.take_succ_cons, List.map_cons, List.sum_cons, List.flatten_cons, List.drop_length_add_append]
    exact this
theorem Juf (hl : laidOutB P = true) (hm : mapsRowed P = true) : ∀ (n : Nat) (t : TypeId) (cs : List Value) (x : DataW H × List MemPlace) (fuel : Nat), JaB P n t = true → DataW.trod enc P w base sp held fuel t cs = some x →
    ∃ pvs, J6z P n t pvs ∧ JqI w pvs cs := by
  have K := kids_rows hl hm
  intro n
  induction n with
  | zero => intro t cs x fuel hp; simp [JaB] at hp
  | succ n ih =>
    intro t cs x fuel hp h
    unfold JaB at hp
    unfold J6z
    split at hp
    · rename_i ht
      obtain ⟨b, rfl, _⟩ := DataW.trod_bool ht h
      refine ⟨[.b b], by simp, rfl, fun i p v h1 h2 => ?_⟩
      match i with
      | 0 => simp at h1 h2; subst h1 h2; exact .b _
      | i + 1 => simp at h1
    · rename_i k ht
      obtain ⟨z, rfl, _, hwf⟩ := DataW.trod_int ht h
      refine ⟨[.i k z], by simpa using hwf, rfl, fun i p v h1 h2 => ?_⟩
      match i with
      | 0 => simp at h1 h2; subst h1 h2; exact .i _ _
      | i + 1 => simp at h1
    · rename_i ht
      obtain ⟨s, rfl, _, hsz⟩ := DataW.trod_string ht h
      refine ⟨[.s s.data.toList], ⟨_, rfl, by rw [Array.length_toList]; exact hsz⟩, rfl, fun i p v h1 h2 => ?_⟩
      match i with
      | 0 => simp at h1 h2; subst h1 h2; exact .s _
      | i + 1 => simp at h1
    · rename_i e ht
      simp only [Bool.and_eq_true, decide_eq_true_eq] at hp
      rcases DataW.trod_slice ht h with ⟨rfl, _⟩ | ⟨a, len, cap, elems, rest, n0, _, rfl, _, _, hlc, hcm, hel, hat, _⟩
      · refine ⟨[.sl (P.cellsOf e) []], ⟨[], rfl, Nat.zero_le _, by simp⟩, rfl, fun i p v h1 h2 => ?_⟩
        match i with
        | 0 => simp at h1 h2; subst h1 h2; exact .sl0 _ _ _
        | i + 1 => simp at h1
      ·
        have hrow : ∀ i, i < len → ∃ row : List PV, (row.length = P.cellsOf e ∧ J6z P n e row) ∧ ∀ j p, row[j]? = some p → ∃ v, w.cell? (a.add (i * P.cellsOf e) |>.add j) = some v ∧ J07 w (fun r _ => r < w.heap.size) p v := by
          intro i hi
          have h1 := hat i hi
          have h2 : ∃ y, elems[i]? = some y := ⟨_, List.getElem?_eq_getElem (by omega)⟩
          obtain ⟨y, hy⟩ := h2
          rw [hy, Option.bind_eq_some_iff] at h1
          obtain ⟨cs', hc, ht'⟩ := h1
          obtain ⟨row, q1, q2, q3⟩ := ih e cs' y n0 hp.1 ht'
          obtain ⟨c1, c2⟩ := JsQ hc
          refine ⟨row, ⟨by omega, q1⟩, fun j p hj => ?_⟩
          have hlt : j < cs'.length := by have := (List.getElem?_eq_some_iff.1 hj).1; omega
          have hv := List.getElem?_eq_getElem hlt
          exact ⟨_, c2 j _ hv, q3 j p _ hj hv⟩
        obtain ⟨rows, hrl, hrows⟩ := JjN _ len hrow
        refine ⟨[.sl (P.cellsOf e) rows], ⟨rows, rfl, by omega, fun row hr => ?_⟩, rfl, fun i p v h1 h2 => ?_⟩
        · obtain ⟨i, hi⟩ := List.getElem?_of_mem hr
          exact (hrows i row hi).1
        match i with
        | i + 1 => simp at h1
        | 0 =>
          simp at h1 h2; subst h1 h2
          by_cases h0 : ∃ (i j : Nat) (row : List PV) (p : PV), rows[i]? = some row ∧ row[j]? = some p
          · obtain ⟨i0, j0, row0, p0, hr0, hp0⟩ := h0
            have spot : a.spot = none ∨ P.cellsOf e = 0 := by
              rcases Nat.eq_zero_or_pos (P.cellsOf e) with hz | hpos
              · exact .inr hz
              · have hlen : 0 < len := by have := (List.getElem?_eq_some_iff.1 hr0).1; omega
                have hr00 := List.getElem?_eq_getElem (l := rows) (i := 0) (by omega)
                have q := hrows 0 _ hr00
                have hj0 := List.getElem?_eq_getElem (l := rows[0]'(by omega)) (i := 0) (by omega)
                obtain ⟨v, hv, _⟩ := q.2 0 _ hj0
                rw [Nat.zero_mul] at hv
                exact .inl (by simpa [Addr.add] using (Jm3 hv).1)
            rcases spot with spot | hz
            · have cell : ∀ (i j : Nat) (row : List PV) (p : PV), rows[i]? = some row → row[j]? = some p → ∃ v, (a.block < w.heap.size ∧ J0r w a.block (a.off + i * P.cellsOf e + j) = some v) ∧ J07 w (fun r _ => r < w.heap.size) p v := by
                intro i j row p hi hj
                obtain ⟨v, hv, hr⟩ := (hrows i row hi).2 j p hj
                obtain ⟨s1, s2, s3⟩ := Jm3 hv
                refine ⟨v, ?_, hr⟩
                have e1 : ((a.add (i * P.cellsOf e)).add j).block = a.block := by unfold Addr.add; split <;> split <;> rfl
                have e2 : ((a.add (i * P.cellsOf e)).add j).off = a.off + i * P.cellsOf e + j := by
                  unfold Addr.add
                  split <;> split <;> simp_all
                rw [e1] at s3
                rw [e1, e2] at s2
                exact ⟨s3, s2⟩
              have ea : a = ⟨a.block, a.off, none⟩ := by cases a; simp_all
              rw [ea, ← hrl]
              refine .sl _ rows a.block a.off cap (fun i j => ((J0r w a.block (a.off + i * P.cellsOf e + j)).getD default)) (by omega) (fun row hr => ?_) (fun i j row p hi hj => ?_) (fun i j row p hi hj => ?_)
              · obtain ⟨i, hi⟩ := List.getElem?_of_mem hr
                exact (hrows i row hi).1.1
              · obtain ⟨v, ⟨h3, h4⟩, _⟩ := cell i j row p hi hj
                exact ⟨h3, by rw [h4]; rfl⟩
              · obtain ⟨v, ⟨h3, h4⟩, h5⟩ := cell i j row p hi hj
                rw [h4]; exact h5
            · have := (hrows i0 row0 hr0).1.1
              have := (List.getElem?_eq_some_iff.1 hp0).1
              omega
          ·
            rcases Nat.eq_zero_or_pos len with hz | hpos
            · have : rows = [] := by cases rows <;> simp_all
              subst this
              subst hz
              exact .sl0 _ _ _
            · exfalso
              have hr00 := List.getElem?_eq_getElem (l := rows) (i := 0) (by omega)
              have q := (hrows 0 _ hr00).1.1
              exact h0 ⟨0, 0, _, _, hr00, List.getElem?_eq_getElem (by omega)⟩
    · rename_i fs ht
      simp only [Bool.and_eq_true, decide_eq_true_eq, List.all_eq_true] at hp
      obtain ⟨xs, n0, _, _, hcl, hxl, hat⟩ := DataW.trod_struct ht h
      obtain ⟨_, ksum, koff⟩ := K.struct hp.2 ht
      have hf : ∀ i, i < fs.toList.length → ∃ ys : List PV, ∀ f, fs.toList[i]? = some f → J6z P n f.type ys ∧ JqI w ys ((cs.drop f.offset).take (P.cellsOf f.type)) := by
        intro i hi
        have hfi := List.getElem?_eq_getElem hi
        have hmem := List.mem_of_getElem? hfi
        have hfa : fs[i]? = some (fs.toList[i]) := by rw [← Array.getElem?_toList]; exact hfi
        have h1 := hat i _ hfa
        have h2 : ∃ y, xs[i]? = some y := ⟨_, List.getElem?_eq_getElem (by simpa [hxl] using hi)⟩
        obtain ⟨y, hy⟩ := h2
        rw [hy] at h1
        obtain ⟨ys, q1, q2⟩ := ih _ _ _ _ (hp.1 _ hmem) h1
        refine ⟨ys, fun f hff => ?_⟩
        rw [hfi] at hff; injection hff with hff; subst hff
        exact ⟨q1, q2⟩
      obtain ⟨yss, hyl, hys⟩ := JjN _ _ hf
      have hlen : ∀ (j : Nat) (f : Field), fs.toList[j]? = some f → ∀ ys : List PV, yss[j]? = some ys → ys.length = P.cellsOf f.type := by
        intro j f hj ys hy
        have q := (hys j ys hy f hj).2.1
        have o := koff j f hj
        rw [q, List.length_take, List.length_drop, hcl, ksum, o]
        have : ((fs.toList.take j).map fun f => P.cellsOf f.type).sum + P.cellsOf f.type ≤ (fs.toList.map fun f => P.cellsOf f.type).sum := by
          have e1 : fs.toList = fs.toList.take j ++ (f :: fs.toList.drop (j + 1)) := by
            have hjl := (List.getElem?_eq_some_iff.1 hj)
            obtain ⟨hjl, he⟩ := hjl
            rw [← he, ← List.drop_eq_getElem_cons hjl, List.take_append_drop]
          conv => rhs; rw [e1]
          simp only [List.map_append, List.map_cons, List.sum_append, List.sum_cons]
          omega
        omega
      have hmapl : yss.map List.length = fs.toList.map fun f => P.cellsOf f.type := by
        apply List.ext_getElem?
        intro j
        rw [List.getElem?_map, List.getElem?_map]
        cases hy : yss[j]? with
        | none =>
          have : fs.toList[j]? = none := by rw [List.getElem?_eq_none_iff] at hy ⊢; omega
          rw [this]; rfl
        | some ys =>
          have hj : j < fs.toList.length := by have := (List.getElem?_eq_some_iff.1 hy).1; omega
          have hfj := List.getElem?_eq_getElem hj
          rw [hfj]
          simp only [Option.map_some]
          rw [hlen j _ hfj ys hy]
      have hoff : ∀ (j : Nat) (f : Field), fs.toList[j]? = some f → ((yss.take j).map List.length).sum = f.offset := by
        intro j f hj
        rw [koff j f hj, List.map_take, hmapl, ← List.map_take]
      refine ⟨yss.flatten, ⟨?_, fun f hf => ?_⟩, ?_, fun i p v h1 h2 => ?_⟩
      · rw [List.length_flatten, hmapl, ksum]
      · obtain ⟨j, hj⟩ := List.getElem?_of_mem hf
        have hjl : j < yss.length := by have := (List.getElem?_eq_some_iff.1 hj).1; omega
        have hyj := List.getElem?_eq_getElem hjl
        have := Jgt yss j _ hyj
        rw [hoff j f hj, hlen j f hj _ hyj] at this
        rw [this]
        exact (hys j _ hyj f hj).1
      · rw [List.length_flatten, hmapl, hcl, ksum]
      ·
        have key : ∀ (l : List (List PV)) (i : Nat) p, l.flatten[i]? = some p → ∃ j ys k, l[j]? = some ys ∧ ys[k]? = some p ∧ i = ((l.take j).map List.length).sum + k := by
          intro l
          induction l with
          | nil => intro i p h; simp at h
          | cons y l ihl =>
            intro i p h
            rw [List.flatten_cons] at h
            rcases Nat.lt_or_ge i y.length with hlt | hge
            · rw [List.getElem?_append_left hlt] at h
              exact ⟨0, y, i, rfl, h, by simp⟩
            · rw [List.getElem?_append_right hge] at h
              obtain ⟨j, ys, k, a1, a2, a3⟩ := ihl _ _ h
              exact ⟨j + 1, ys, k, by simpa using a1, a2, by simp only [List.take_succ_cons, List.map_cons, List.sum_cons]; omega⟩
        obtain ⟨j, ys, k, a1, a2, a3⟩ := key _ _ _ h1
        have hj : j < fs.toList.length := by have := (List.getElem?_eq_some_iff.1 a1).1; omega
        have hfj := List.getElem?_eq_getElem hj
        have q := (hys j ys a1 _ hfj).2
        refine q.2 k p v a2 ?_
        have hk : k < P.cellsOf (fs.toList[j]).type := by have := (List.getElem?_eq_some_iff.1 a2).1; rw [hlen j _ hfj ys a1] at this; exact this
        rw [List.getElem?_take_of_lt hk, List.getElem?_drop, ← hoff j _ hfj, ← a3]
        exact h2
    · rename_i m e ht
      simp only [Bool.and_eq_true, decide_eq_true_eq] at hp
      obtain ⟨xs, n0, _, _, hcl, hxl, hat⟩ := DataW.trod_array ht h
      obtain ⟨_, ksz⟩ := K.array hp.2 ht
      have hf : ∀ i, i < m → ∃ ys : List PV, J6z P n e ys ∧ JqI w ys ((cs.drop (i * P.cellsOf e)).take (P.cellsOf e)) := by
        intro i hi
        have h1 := hat i hi
        have h2 : ∃ y, xs[i]? = some y := ⟨_, List.getElem?_eq_getElem (by omega)⟩
        obtain ⟨y, hy⟩ := h2
        rw [hy] at h1
        exact ih _ _ _ _ hp.1 h1
      obtain ⟨yss, hyl, hys⟩ := JjN _ _ hf
      have hlen : ∀ (j : Nat) ys, yss[j]? = some ys → ys.length = P.cellsOf e := by
        intro j ys hy
        have q := (hys j ys hy).2.1
        have hj : j < m := by have := (List.getElem?_eq_some_iff.1 hy).1; omega
        rw [q, List.length_take, List.length_drop, hcl, ksz]
        have : j * P.cellsOf e + P.cellsOf e ≤ m * P.cellsOf e := by rw [← Nat.succ_mul]; exact Nat.mul_le_mul_right _ hj
        omega
      have hall : ∀ y ∈ yss, y.length = P.cellsOf e := fun y hy => by
        obtain ⟨j, hj⟩ := List.getElem?_of_mem hy
        exact hlen j y hj
      have hsum : ∀ l : List (List PV), (∀ y ∈ l, y.length = P.cellsOf e) → (l.map List.length).sum = l.length * P.cellsOf e := by
        intro l
        induction l with
        | nil => intro _; simp
        | cons y l ihl => intro hh; simp [hh y (by simp), ihl (fun z hz => hh z (by simp [hz])), Nat.succ_mul, Nat.add_comm]
      have hoff : ∀ j, j ≤ m → ((yss.take j).map List.length).sum = j * P.cellsOf e := by
        intro j hj
        rw [hsum _ (fun y hy => hall y (List.mem_of_mem_take hy)), List.length_take, hyl, Nat.min_eq_left hj]
      refine ⟨yss.flatten, ⟨?_, fun j hj => ?_⟩, ?_, fun i p v h1 h2 => ?_⟩
      · rw [List.length_flatten, hsum _ hall, hyl, ksz]
      · have hyj := List.getElem?_eq_getElem (l := yss) (i := j) (by omega)
        have := Jgt yss j _ hyj
        rw [hoff j (by omega), hlen j _ hyj] at this
        rw [this]
        exact (hys j _ hyj).1
      · rw [List.length_flatten, hsum _ hall, hcl, hyl, ksz]
      · have key : ∀ (l : List (List PV)) (i : Nat) p, l.flatten[i]? = some p → ∃ j ys k, l[j]? = some ys ∧ ys[k]? = some p ∧ i = ((l.take j).map List.length).sum + k := by
          intro l
          induction l with
          | nil => intro i p h; simp at h
          | cons y l ihl =>
            intro i p h
            rw [List.flatten_cons] at h
            rcases Nat.lt_or_ge i y.length with hlt | hge
            · rw [List.getElem?_append_left hlt] at h
              exact ⟨0, y, i, rfl, h, by simp⟩
            · rw [List.getElem?_append_right hge] at h
              obtain ⟨j, ys, k, a1, a2, a3⟩ := ihl _ _ h
              exact ⟨j + 1, ys, k, by simpa using a1, a2, by simp only [List.take_succ_cons, List.map_cons, List.sum_cons]; omega⟩
        obtain ⟨j, ys, k, a1, a2, a3⟩ := key _ _ _ h1
        have hj : j < m := by have := (List.getElem?_eq_some_iff.1 a1).1; omega
        have q := (hys j ys a1).2
        refine q.2 k p v a2 ?_
        have hk : k < P.cellsOf e := by have := (List.getElem?_eq_some_iff.1 a2).1; rw [hlen j ys a1] at this; exact this
        rw [List.getElem?_take_of_lt hk, List.getElem?_drop, ← hoff j (by omega), ← a3]
        exact h2
    · cases hp
end
end Go.Am
end
section
namespace Go.Am
open Go.ChangeShapes Go.WideShapes Go.ChangeAt Go.RowKit
def gh0 (w : World) : Gh := ⟨fun _ => none, fun r _ => r < w.heap.size⟩
theorem Jlb (g : Gh) (w : World) (b r o : Nat) : ¬ Wr1 ⟨[], g, w⟩ b r o := by
  unfold Wr1; simp
theorem Jxg (w : World) : Inv ⟨[], gh0 w, w⟩ where
  box := fun b cs h => by simp at h
  arr := fun b wm esz rows h => by simp at h
  apart := fun b1 b2 r o h => absurd h (Jlb _ _ _ _ _)
  const := fun r o h => ⟨h, fun b => Jlb _ _ _ _ _⟩
def Jd7 (w w' : World) : Prop := JbL (fun _ _ => False) w w'
theorem Jd7.kept {w w' : World} (h : Jd7 w w') (may : MemPlace → Prop) : w.keptBut w' may := by
  obtain ⟨h1, h2, h3, h4, h5⟩ := h
  refine ⟨h4, h5, fun i hi => ?_⟩
  have hg := Array.getElem?_eq_getElem hi
  cases hw : w.heap[i]? with
  | none => rw [hg] at hw; cases hw
  | some x =>
    cases x with
    | cells c e fz =>
      obtain ⟨c', q1, q2, q3⟩ := h2 i c e fz hw
      rw [q1]
      exact ⟨rfl, rfl, q2, fun j _ => q3 j (fun hf => hf)⟩
    | map es clock =>
      have := h3 i _ hw (fun c e fz he => by cases he)
      rw [this]
      exact .inr ⟨rfl, rfl⟩
    | _ =>
      have := h3 i _ hw (fun c e fz he => by cases he)
      rw [this]
theorem Jd7.same {w w' : World} (h : Jd7 w w') {p : MemPlace} (hp : p.block < w.heap.size) : w.sameAt w' p := by
  obtain ⟨h1, h2, h3, h4, h5⟩ := h
  cases p with
  | cell b off =>
    have hb : b < w.heap.size := hp
    have hg := Array.getElem?_eq_getElem hb
    show w'.cell? ⟨b, off, none⟩ = w.cell? ⟨b, off, none⟩
    rw [J6N, J6N]
    unfold J0r
    cases hw : w.heap[b]? with
    | none => rw [hg] at hw; cases hw
    | some x =>
      cases x with
      | cells c e fz =>
        obtain ⟨c', q1, q2, q3⟩ := h2 b c e fz hw
        rw [q1]
        exact q3 off (fun hf => hf)
      | _ =>
        have := h3 b _ hw (fun c e fz he => by cases he)
        rw [this]
  | map b =>
    have hb : b < w.heap.size := hp
    have hg := Array.getElem?_eq_getElem hb
    show w'.heap[b]? = w.heap[b]?
    cases hw : w.heap[b]? with
    | none => rw [hg] at hw; cases hw
    | some x =>
      cases x with
      | cells c e fz =>
        obtain ⟨c', q1, q2, q3⟩ := h2 b c e fz hw
        rw [q1]
        have : c' = c := by
          apply Array.ext_getElem?
          intro i
          exact q3 i (fun hf => hf)
        rw [this]
      | _ => exact h3 b _ hw (fun c e fz he => by cases he)
theorem Jd7.frozen {w w' : World} (h : Jd7 w w') {a : Addr} (hp : a.block < w.heap.size) : w'.frozen? a = w.frozen? a := by
  obtain ⟨h1, h2, h3, h4, h5⟩ := h
  have hg := Array.getElem?_eq_getElem hp
  unfold World.frozen?
  cases hw : w.heap[a.block]? with
  | none => rw [hg] at hw; cases hw
  | some x =>
    cases x with
    | cells c e fz =>
      obtain ⟨c', q1, q2, q3⟩ := h2 a.block c e fz hw
      rw [q1]
    | _ =>
      have := h3 a.block _ hw (fun c e fz he => by cases he)
      rw [this]
theorem JrQ {P : Program} {F : Orc} (hF : J6h P F) {f : FuncId} {args : List AV} {vals : Array Value} {w : World} (hl : args.length = vals.size)
    (hr : ∀ (i : Nat) x v, args[i]? = some x → vals[i]? = some v → Jz ⟨[], gh0 w, w⟩ x v) (h : F f args [] = some (.p (.b true), [])) :
    Calls P f vals w fun e w' => e = .returned (.bool true) ∧ Jd7 w w' := by
  refine ((hF _ _ _ _ h).2 (gh0 w) w vals (Jxg w) hl hr).mono fun e w' ⟨v, g', he, _, ht, hrel⟩ => ?_
  cases hrel with
  | p _ _ hrel =>
    cases hrel with
    | b =>
      refine ⟨he, ?_⟩
      obtain ⟨k1, k2, k3, k4⟩ := ht.keep
      refine ⟨k1, fun r c e fz hr => ?_, k3, k4⟩
      obtain ⟨c', q1, q2, q3⟩ := k2 r c e fz hr
      exact ⟨c', q1, q2, fun o _ => q3 o (fun ⟨b, hb⟩ => Jlb _ _ _ _ _ hb)⟩
section
variable {H : Type} {enc : TypeId × Value → H} {P : Program}
theorem Jfj (hl : laidOutB P = true) (hm : mapsRowed P = true) (hsz : ∀ {t e : TypeId}, t < P.types.size → P.underlying t = some (.slice e) → 0 < P.cellsOf e) {W W' : World} {sp : Nat → Bool} :
    ∀ {ts : List TypeId} {vs : List Value} {ds : List (DataW H)} {ps : List MemPlace}, (∀ t ∈ ts, t < P.types.size) → DataW.TrodAll enc P W 0 (fun _ => true) true ts vs ds ps →
      (∀ p ∈ ps, W.sameAt W' p) → (∀ p ∈ ps, sp p.block = true) → DataW.TrodAll enc P W' 0 sp true ts vs ds ps
  | [], [], [], _, _, h, _, _ => h
  | [], _ :: _, _, _, _, h, _, _ => h.elim
  | [], [], _ :: _, _, _, h, _, _ => h.elim
  | _ :: _, [], _, _, _, h, _, _ => h.elim
  | _ :: _, _ :: _, [], _, _, h, _, _ => h.elim
  | t :: ts, v :: vs, d :: ds, _, hT, ⟨p, q, ⟨n, h1⟩, h2, rfl⟩, hs, hp => by
    refine ⟨p, q, ⟨n, DataW.trod_stays (kids_rows hl hm) hsz (fun h => by cases h) (hT t (by simp)) h1 (fun x hx => hs x (by simp [hx])) (fun x hx => hp x (by simp [hx]))⟩, ?_, rfl⟩
    exact Jfj hl hm hsz (fun x hx => hT x (by simp [hx])) h2 (fun x hx => hs x (by simp [hx])) (fun x hx => hp x (by simp [hx]))
def Jby (P : Program) : Bool := (List.range P.types.size).all fun t => match P.underlying t with
  | some (.slice e) => decide (0 < P.cellsOf e)
  | _ => true
theorem Jon (h : Jby P = true) {t e : TypeId} (ht : t < P.types.size) (he : P.underlying t = some (.slice e)) : 0 < P.cellsOf e := by
  unfold Jby at h
  rw [List.all_eq_true] at h
  have := h t (by simpa using ht)
  rw [he] at this
  simpa using this
theorem JsG {fn : Func} {s : ChangeSpec} {tb : TypeId} (hl : laidOutB P = true) (hm : mapsRowed P = true) (hsz : Jby P = true) (hpar : ∀ t ∈ fn.params.toList, t < P.types.size)
    (hres : fn.resultTypes = #[tb]) (htb : P.underlying tb = some .bool) (hvars : s.vars = []) {apart fresh handsOn again : Bool} {W W' : World} {args : Array Value} {ds gs : List (DataW H)} {before : List MemPlace}
    (hfn : gs = [] → s.fn H (ds ++ gs) = { results := [.lit (.bool true)], args := ds })
    (hW : DataW.Whole enc P fn.params.toList s.vars apart W args.toList ds gs before) (hst : Jd7 W W') : s.post enc P fn apart fresh handsOn again W args (.bool true) W' := by
  have hW0 := hW
  have hlt := hW.lt
  obtain ⟨p, q, h1, h2, rfl, hz, hn⟩ := hW
  rw [hvars] at h2
  obtain ⟨rfl, rfl⟩ := trodVars_none h2
  rw [List.append_nil] at hW0 hlt hz hn
  have hf := hfn rfl
  have hargs : ∀ sp : Nat → Bool, (∀ x ∈ p, sp x.block = true) → DataW.TrodAll enc P W' 0 sp true fn.params.toList args.toList ds p := fun sp hp =>
    Jfj hl hm (fun ht he => Jon hsz ht he) hpar h1 (fun x hx => hst.same (hlt x hx)) hp
  have hr : ∀ (b : Nat) (sp : Nat → Bool) (hd : Bool), DataW.TrodAll enc P W' b sp hd fn.resultTypes.toList ((Value.bool true).resultList fn.resultTypes.size) [.lit (.bool true)] [] := by
    intro b sp hd
    rw [hres]
    exact trodAll_cons_mk (shut_bool htb _) trodAll_mk0
  refine ⟨ds, [], p, [], p, [], hW0, ?_, ?_, ?_, hst.kept _, fun _ => ⟨?_, ?_⟩⟩
  · rw [hf]; exact hr _ _ _
  · rw [hf]; exact hargs _ (fun x hx => by simpa using hlt x hx)
  · rw [hf, hvars]; rfl
  · exact ok_one hres rfl (okWide_bool_mk htb _)
  · refine ⟨_, [], [] ++ p, ⟨[] ++ p, [], trodAll_append (hargs _ (fun _ _ => rfl)) (hr _ _ _), by rw [hvars]; rfl, by simp, fun b off hp => ?_, fun ha => by simpa using hn ha⟩, fun x hx _ => by simpa using hx⟩
    have hp' : MemPlace.cell b off ∈ p := by simpa using hp
    rw [hst.frozen (a := ⟨b, off, none⟩) (hlt _ hp')]
    exact hz b off hp'
def Jg3 (P : Program) (t : TypeId) (pvs : List PV) : AV := match P.underlying t with
  | some (.struct _) => .data pvs
  | some (.array _ _) => .data pvs
  | _ => match pvs with
    | [c] => .p c
    | _ => .unk
theorem Jeh (hl : laidOutB P = true) (hm : mapsRowed P = true) {n : Nat} {t : TypeId} {w : World} {r : Reach} {base : Nat} {sp : Nat → Bool} {v : Value} {d : DataW H} {ps : List MemPlace} (hp : JaB P n t = true)
    (hv : Value.okWide P w r base t v) (h : DataW.Trod enc P w 0 sp true t v d ps) : ∃ pvs, J6z P n t pvs ∧ Jz ⟨[], gh0 w, w⟩ (Jg3 P t pvs) v := by
  obtain ⟨fuel, h⟩ := h
  obtain ⟨pvs, q1, q2, q3⟩ := Juf hl hm n t _ _ fuel hp h
  refine ⟨pvs, q1, ?_⟩
  cases n with
  | zero => simp [JaB] at hp
  | succ n =>
    unfold JaB at hp
    unfold Value.okWide at hv
    unfold Jg3
    have one : ∀ {c : PV}, pvs = [c] → (∀ cs, v ≠ .agg cs) → Jz ⟨[], gh0 w, w⟩ (.p c) v := by
      intro c hc hne
      subst hc
      refine .p _ _ (q3 0 c v rfl ?_)
      cases v <;> first | rfl | exact absurd rfl (hne _)
    unfold J6z at q1
    split at hp
    · rename_i ht
      rw [ht] at q1 hv ⊢
      obtain ⟨b, rfl⟩ := q1
      exact one rfl (fun cs he => by subst he; simp [Cell.okWide, Cell.ok, ht] at hv)
    · rename_i k ht
      rw [ht] at q1 hv ⊢
      obtain ⟨z, rfl, _⟩ := q1
      exact one rfl (fun cs he => by subst he; simp [Cell.okWide, Cell.ok, ht] at hv)
    · rename_i ht
      rw [ht] at q1 hv ⊢
      obtain ⟨z, rfl, _⟩ := q1
      exact one rfl (fun cs he => by subst he; simp [Cell.okWide, Cell.ok, ht] at hv)
    · rename_i e ht
      rw [ht] at q1 hv ⊢
      obtain ⟨rows, rfl, _⟩ := q1
      exact one rfl (fun cs he => by subst he; simp [Cell.okWide, Cell.ok, ht] at hv)
    · rename_i fs ht
      rw [ht] at hv ⊢
      obtain ⟨cs, rfl, _⟩ := hv
      exact .data _ _ (by simpa [Value.cells] using q2) (fun i x v h1 h2 => q3 i x v h1 (by simpa [Value.cells] using h2))
    · rename_i m e ht
      rw [ht] at hv ⊢
      obtain ⟨cs, rfl, _⟩ := hv
      exact .data _ _ (by simpa [Value.cells] using q2) (fun i x v h1 h2 => q3 i x v h1 (by simpa [Value.cells] using h2))
    · cases hp
end
end Go.Am
end
