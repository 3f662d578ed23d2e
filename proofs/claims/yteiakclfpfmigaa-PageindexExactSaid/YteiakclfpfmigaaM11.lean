/-
  Parts of a proof: AmLaw.
-/
import Derived.WalkKit
import Derived.ProofKit
import Derived.Test.YteiakclfpfmigaaM10
set_option linter.unusedSimpArgs false
set_option linter.unusedVariables false
section
namespace Go.Am
open Go.ChangeShapes Go.WideShapes Go.ChangeAt Go.RowKit
def gh0 (w : World) : Gh := ⟨fun _ => none, fun r _ => r < w.heap.size⟩
theorem Jjo (g : Gh) (w : World) (b r o : Nat) : ¬ Wr1 ⟨[], g, w⟩ b r o := by
  unfold Wr1; simp
theorem Juo (w : World) : Inv ⟨[], gh0 w, w⟩ where
  box := fun b cs h => by simp at h
  arr := fun b wm esz rows h => by simp at h
  apart := fun b1 b2 r o h => absurd h (Jjo _ _ _ _ _)
  const := fun r o h => ⟨h, fun b => Jjo _ _ _ _ _⟩
def JcB (w w' : World) : Prop := Jc1 (fun _ _ => False) w w'
theorem JcB.kept {w w' : World} (h : JcB w w') (may : MemPlace → Prop) : w.keptBut w' may := by
  obtain ⟨h1, h2, h3, h4, h5⟩ := h
  refine ⟨h4, h5, fun i hi => ?_⟩
  have hg := Array.getElem?_eq_getElem hi
  cases hw : w.heap[i]? with
  | none => rw [hg] at hw; cases hw
  | some x =>
    cases x with
    | cells c e fz =>
      obtain ⟨c', q1, q2, q3⟩ := h2 i c e fz hw
      rw [q1]
      exact ⟨rfl, rfl, q2, fun j _ => q3 j (fun hf => hf)⟩
    | map es clock =>
      have := h3 i _ hw (fun c e fz he => by cases he)
      rw [this]
      exact .inr ⟨rfl, rfl⟩
    | _ =>
      have := h3 i _ hw (fun c e fz he => by cases he)
      rw [this]
theorem JcB.same {w w' : World} (h : JcB w w') {p : MemPlace} (hp : p.block < w.heap.size) : w.sameAt w' p := by
  obtain ⟨h1, h2, h3, h4, h5⟩ := h
  cases p with
  | cell b off =>
    have hb : b < w.heap.size := hp
    have hg := Array.getElem?_eq_getElem hb
    show w'.cell? ⟨b, off, none⟩ = w.cell? ⟨b, off, none⟩
    rw [J8R, J8R]
    unfold J0A
    cases hw : w.heap[b]? with
    | none => rw [hg] at hw; cases hw
    | some x =>
      cases x with
      | cells c e fz =>
        obtain ⟨c', q1, q2, q3⟩ := h2 b c e fz hw
        rw [q1]
        exact q3 off (fun hf => hf)
      | _ =>
        have := h3 b _ hw (fun c e fz he => by cases he)
        rw [this]
  | map b =>
    have hb : b < w.heap.size := hp
    have hg := Array.getElem?_eq_getElem hb
    show w'.heap[b]? = w.heap[b]?
    cases hw : w.heap[b]? with
    | none => rw [hg] at hw; cases hw
    | some x =>
      cases x with
      | cells c e fz =>
        obtain ⟨c', q1, q2, q3⟩ := h2 b c e fz hw
        rw [q1]
        have : c' = c := by
          apply Array.ext_getElem?
          intro i
          exact q3 i (fun hf => hf)
        rw [this]
      | _ => exact h3 b _ hw (fun c e fz he => by cases he)
theorem JcB.frozen {w w' : World} (h : JcB w w') {a : Addr} (hp : a.block < w.heap.size) : w'.frozen? a = w.frozen? a := by
  obtain ⟨h1, h2, h3, h4, h5⟩ := h
  have hg := Array.getElem?_eq_getElem hp
  unfold World.frozen?
  cases hw : w.heap[a.block]? with
  | none => rw [hg] at hw; cases hw
  | some x =>
    cases x with
    | cells c e fz =>
      obtain ⟨c', q1, q2, q3⟩ := h2 a.block c e fz hw
      rw [q1]
    | _ =>
      have := h3 a.block _ hw (fun c e fz he => by cases he)
      rw [this]
theorem Jom {P : Program} {F : Orc} (hF : J6E P F) {f : FuncId} {args : List AV} {vals : Array Value} {w : World} (hl : args.length = vals.size)
    (hr : ∀ (i : Nat) x v, args[i]? = some x → vals[i]? = some v → JI ⟨[], gh0 w, w⟩ x v) (h : F f args [] = some (.p (.b true), [])) :
    Calls P f vals w fun e w' => e = .returned (.bool true) ∧ JcB w w' := by
  refine ((hF _ _ _ _ h).2 (gh0 w) w vals (Juo w) hl hr).mono fun e w' ⟨v, g', he, _, ht, hrel⟩ => ?_
  cases hrel with
  | p _ _ hrel =>
    cases hrel with
    | b =>
      refine ⟨he, ?_⟩
      obtain ⟨k1, k2, k3, k4⟩ := ht.keep
      refine ⟨k1, fun r c e fz hr => ?_, k3, k4⟩
      obtain ⟨c', q1, q2, q3⟩ := k2 r c e fz hr
      exact ⟨c', q1, q2, fun o _ => q3 o (fun ⟨b, hb⟩ => Jjo _ _ _ _ _ hb)⟩
section
variable {H : Type} {enc : TypeId × Value → H} {P : Program}
theorem JeA (hl : laidOutB P = true) (hm : mapsRowed P = true) (hsz : ∀ {t e : TypeId}, t < P.types.size → P.underlying t = some (.slice e) → 0 < P.cellsOf e) {W W' : World} {sp : Nat → Bool} :
    ∀ {ts : List TypeId} {vs : List Value} {ds : List (DataW H)} {ps : List MemPlace}, (∀ t ∈ ts, t < P.types.size) → DataW.TrodAll enc P W 0 (fun _ => true) true ts vs ds ps →
      (∀ p ∈ ps, W.sameAt W' p) → (∀ p ∈ ps, sp p.block = true) → DataW.TrodAll enc P W' 0 sp true ts vs ds ps
  | [], [], [], _, _, h, _, _ => h
  | [], _ :: _, _, _, _, h, _, _ => h.elim
  | [], [], _ :: _, _, _, h, _, _ => h.elim
  | _ :: _, [], _, _, _, h, _, _ => h.elim
  | _ :: _, _ :: _, [], _, _, h, _, _ => h.elim
  | t :: ts, v :: vs, d :: ds, _, hT, ⟨p, q, ⟨n, h1⟩, h2, rfl⟩, hs, hp => by
    refine ⟨p, q, ⟨n, DataW.trod_stays (kids_rows hl hm) hsz (fun h => by cases h) (hT t (by simp)) h1 (fun x hx => hs x (by simp [hx])) (fun x hx => hp x (by simp [hx]))⟩, ?_, rfl⟩
    exact JeA hl hm hsz (fun x hx => hT x (by simp [hx])) h2 (fun x hx => hs x (by simp [hx])) (fun x hx => hp x (by simp [hx]))
def Jav (P : Program) : Bool := (List.range P.types.size).all fun t => match P.underlying t with
  | some (.slice e) => decide (0 < P.cellsOf e)
  | _ => true
theorem JlC (h : Jav P = true) {t e : TypeId} (ht : t < P.types.size) (he : P.underlying t = some (.slice e)) : 0 < P.cellsOf e := by
  unfold Jav at h
  rw [List.all_eq_true] at h
  have := h t (by simpa using ht)
  rw [he] at this
  simpa using this
theorem JpJ {fn : Func} {s : ChangeSpec} {tb : TypeId} (hl : laidOutB P = true) (hm : mapsRowed P = true) (hsz : Jav P = true) (hpar : ∀ t ∈ fn.params.toList, t < P.types.size)
    (hres : fn.resultTypes = #[tb]) (htb : P.underlying tb = some .bool) (hvars : s.vars = []) {apart fresh handsOn again : Bool} {W W' : World} {args : Array Value} {ds gs : List (DataW H)} {before : List MemPlace}
    (hfn : gs = [] → s.fn H (ds ++ gs) = { results := [.lit (.bool true)], args := ds })
    (hW : DataW.Whole enc P fn.params.toList s.vars apart W args.toList ds gs before) (hst : JcB W W') : s.post enc P fn apart fresh handsOn again W args (.bool true) W' := by
  have hW0 := hW
  have hlt := hW.lt
  obtain ⟨p, q, h1, h2, rfl, hz, hn⟩ := hW
  rw [hvars] at h2
  obtain ⟨rfl, rfl⟩ := trodVars_none h2
  rw [List.append_nil] at hW0 hlt hz hn
  have hf := hfn rfl
  have hargs : ∀ sp : Nat → Bool, (∀ x ∈ p, sp x.block = true) → DataW.TrodAll enc P W' 0 sp true fn.params.toList args.toList ds p := fun sp hp =>
    JeA hl hm (fun ht he => JlC hsz ht he) hpar h1 (fun x hx => hst.same (hlt x hx)) hp
  have hr : ∀ (b : Nat) (sp : Nat → Bool) (hd : Bool), DataW.TrodAll enc P W' b sp hd fn.resultTypes.toList ((Value.bool true).resultList fn.resultTypes.size) [.lit (.bool true)] [] := by
    intro b sp hd
    rw [hres]
    exact trodAll_cons_mk (shut_bool htb _) trodAll_mk0
  refine ⟨ds, [], p, [], p, [], hW0, ?_, ?_, ?_, hst.kept _, fun _ => ⟨?_, ?_⟩⟩
  · rw [hf]; exact hr _ _ _
  · rw [hf]; exact hargs _ (fun x hx => by simpa using hlt x hx)
  · rw [hf, hvars]; rfl
  · exact ok_one hres rfl (okWide_bool_mk htb _)
  · refine ⟨_, [], [] ++ p, ⟨[] ++ p, [], trodAll_append (hargs _ (fun _ _ => rfl)) (hr _ _ _), by rw [hvars]; rfl, by simp, fun b off hp => ?_, fun ha => by simpa using hn ha⟩, fun x hx _ => by simpa using hx⟩
    have hp' : MemPlace.cell b off ∈ p := by simpa using hp
    rw [hst.frozen (a := ⟨b, off, none⟩) (hlt _ hp')]
    exact hz b off hp'
def JcF (P : Program) (t : TypeId) (pvs : List PV) : AV := match P.underlying t with
  | some (.struct _) => .data pvs
  | some (.array _ _) => .data pvs
  | _ => match pvs with
    | [c] => .p c
    | _ => .unk
theorem Jag (hl : laidOutB P = true) (hm : mapsRowed P = true) {n : Nat} {t : TypeId} {w : World} {r : Reach} {base : Nat} {sp : Nat → Bool} {v : Value} {d : DataW H} {ps : List MemPlace} (hp : J9H P n t = true)
    (hv : Value.okWide P w r base t v) (h : DataW.Trod enc P w 0 sp true t v d ps) : ∃ pvs, J7B P n t pvs ∧ JI ⟨[], gh0 w, w⟩ (JcF P t pvs) v := by
  obtain ⟨fuel, h⟩ := h
  obtain ⟨pvs, q1, q2, q3⟩ := JrK hl hm n t _ _ fuel hp h
  refine ⟨pvs, q1, ?_⟩
  cases n with
  | zero => simp [J9H] at hp
  | succ n =>
    unfold J9H at hp
    unfold Value.okWide at hv
    unfold JcF
    have one : ∀ {c : PV}, pvs = [c] → (∀ cs, v ≠ .agg cs) → JI ⟨[], gh0 w, w⟩ (.p c) v := by
      intro c hc hne
      subst hc
      refine .p _ _ (q3 0 c v rfl ?_)
      cases v <;> first | rfl | exact absurd rfl (hne _)
    unfold J7B at q1
    split at hp
    · rename_i ht
      rw [ht] at q1 hv ⊢
      obtain ⟨b, rfl⟩ := q1
      exact one rfl (fun cs he => by subst he; simp [Cell.okWide, Cell.ok, ht] at hv)
    · rename_i k ht
      rw [ht] at q1 hv ⊢
      obtain ⟨z, rfl, _⟩ := q1
      exact one rfl (fun cs he => by subst he; simp [Cell.okWide, Cell.ok, ht] at hv)
    · rename_i ht
      rw [ht] at q1 hv ⊢
      obtain ⟨z, rfl, _⟩ := q1
      exact one rfl (fun cs he => by subst he; simp [Cell.okWide, Cell.ok, ht] at hv)
    · rename_i e ht
      rw [ht] at q1 hv ⊢
      obtain ⟨rows, rfl, _⟩ := q1
      exact one rfl (fun cs he => by subst he; simp [Cell.okWide, Cell.ok, ht] at hv)
    · rename_i fs ht
      rw [ht] at hv ⊢
      obtain ⟨cs, rfl, _⟩ := hv
      exact .data _ _ (by simpa [Value.cells] using q2) (fun i x v h1 h2 => q3 i x v h1 (by simpa [Value.cells] using h2))
    · rename_i m e ht
      rw [ht] at hv ⊢
      obtain ⟨cs, rfl, _⟩ := hv
      exact .data _ _ (by simpa [Value.cells] using q2) (fun i x v h1 h2 => q3 i x v h1 (by simpa [Value.cells] using h2))
    · cases hp
end
end Go.Am
end
