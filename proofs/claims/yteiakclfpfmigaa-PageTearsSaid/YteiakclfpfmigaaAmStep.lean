/-
  The abstract machine: the steps that change memory.
-/
import Derived.Test.YteiakclfpfmigaaAmRel
set_option linter.unusedSimpArgs false
set_option linter.unusedVariables false
namespace Go.Am

theorem get_set_self {σ : List Blk} {b : Nat} {x y : Blk} (h : σ[b]? = some x) : (σ.set b y)[b]? = some y := by
  have : b < σ.length := by
    rcases Nat.lt_or_ge b σ.length with h' | h'
    · exact h'
    · simp [List.getElem?_eq_none h'] at h
  simp [this]

theorem get_set_ne {σ : List Blk} {b c : Nat} {y : Blk} (h : b ≠ c) : (σ.set b y)[c]? = σ[c]? := by
  simp [h]

/-- The same heap: nothing changes. -/
theorem same_heap {s0 : Sn} (hi : Inv s0) {w' : World} (hh : w'.heap = s0.w.heap) (ho : w'.os = s0.w.os) (hp : w'.output = s0.w.output) :
    Inv ⟨s0.σ, s0.g, w'⟩ ∧ Trans s0 ⟨s0.σ, s0.g, w'⟩ := by
  have hc : ∀ r o, cellAt w' r o = cellAt s0.w r o := fun r o => by unfold cellAt; rw [hh]
  have t : Trans s0 ⟨s0.σ, s0.g, w'⟩ := by
    refine ⟨⟨by rw [hh]; exact Nat.le_refl _, fun r c e fz h => ⟨c, by rw [hh]; exact h, rfl, fun _ _ => rfl⟩, fun r x h _ => by rw [hh]; exact h, ho, hp⟩, fun _ _ h => h, fun _ _ h => .inl h, fun r o ⟨b, hb⟩ => .inl ⟨b, hb⟩, Nat.le_refl _, fun _ cs h => ⟨⟨cs, h, rfl⟩, rfl⟩,
      fun _ wm _ rows h => ⟨wm, rows, h, id, Nat.le_refl _, fun _ => rfl⟩⟩
  exact ⟨inv_of hi t (fun _ => False) (fun _ _ => ⟨rfl, rfl⟩) (fun _ r o v _ _ h => by rw [hc]; exact h) (fun _ _ h => h.elim) (fun _ _ _ _ h => h.elim)
    (fun _ _ _ _ h => h.elim) (fun r o h => by show r < w'.heap.size; rw [hh]; exact (hi.const r o h).1) (fun _ _ _ _ h => h.elim) (fun _ _ _ h h' => (h' h).elim), t⟩

theorem push_keep {W : Nat → Nat → Prop} {w w' : World} {x : Obj} (hh : w'.heap = w.heap.push x) (ho : w'.os = w.os) (hp : w'.output = w.output) : Keep W w w' := by
  have hr : ∀ (r : Nat) y, w.heap[r]? = some y → w'.heap[r]? = some y := by
    intro r y h
    have := lt_of_cells h
    rw [hh, Array.getElem?_push]
    split
    · omega
    · exact h
  exact ⟨by rw [hh]; simp, fun r c e fz h => ⟨c, hr r _ h, rfl, fun _ _ => rfl⟩, fun r y h _ => hr r y h, ho, hp⟩

theorem push_last {w w' : World} {x : Obj} (hh : w'.heap = w.heap.push x) : w'.heap[w.heap.size]? = some x := by
  rw [hh]; simp

theorem push_cell {w w' : World} {x : Obj} (hh : w'.heap = w.heap.push x) {r o v} (h : cellAt w r o = some v) : cellAt w' r o = some v :=
  (push_keep (W := fun _ _ => False) (w := w) (w' := { w' with os := w.os, output := w.output }) hh rfl rfl).cell (fun h => h) h

def newμ (g : Gh) (new : Nat) (x : Option (Nat × Nat)) : Gh := ⟨fun b => if b = new then x else g.μ b, g.C⟩

theorem kinds_new {s0 s : Sn} {new : Nat} {blk : Blk} (hd : s0.σ[new]? = some .dead) (hs : s.σ = s0.σ.set new blk) (x : Option (Nat × Nat)) (hg : s.g.μ = (newμ s0.g new x).μ) :
    s0.σ.length ≤ s.σ.length ∧ (∀ b cs, s0.σ[b]? = some (.box cs) → (∃ cs', s.σ[b]? = some (.box cs') ∧ cs'.length = cs.length) ∧ s.g.μ b = s0.g.μ b) ∧
    (∀ b wm esz rows, s0.σ[b]? = some (.arr wm esz rows) → ∃ wm' rows', s.σ[b]? = some (.arr wm' esz rows') ∧ (wm' = true → wm = true) ∧
    rows.length ≤ rows'.length ∧ (rows'.length = rows.length → s.g.μ b = s0.g.μ b)) := by
  have hn : ∀ b y, s0.σ[b]? = some y → y ≠ .dead → s.σ[b]? = some y ∧ s.g.μ b = s0.g.μ b := by
    intro b y hb hy
    have hne : new ≠ b := by rintro rfl; rw [hd] at hb; exact hy (by injection hb with h; exact h.symm)
    rw [hs, get_set_ne hne, hg]
    exact ⟨hb, if_neg (fun e => hne e.symm)⟩
  refine ⟨by rw [hs]; simp, fun b cs h => ?_, fun b wm esz rows h => ?_⟩
  · obtain ⟨a, m⟩ := hn b _ h (by simp)
    exact ⟨⟨cs, a, rfl⟩, m⟩
  · obtain ⟨a, m⟩ := hn b _ h (by simp)
    exact ⟨wm, rows, a, id, Nat.le_refl _, fun _ => m⟩

def NewOk (s0 : Sn) (c : Array Value) : Blk → Prop
  | .box cs => cs.length ≤ c.size ∧ ∀ (i : Nat) x, cs[i]? = some x → ∃ v, c[i]? = some v ∧ RelA s0 x v ∧ v.oneCell' = true
  | .arr true esz rows => (∀ row ∈ rows, row.length = esz) ∧ rows.length * esz ≤ c.size ∧
    ∀ (i j : Nat) row x, rows[i]? = some row → row[j]? = some x → ∃ v, c[i * esz + j]? = some v ∧ RelP s0.w s0.g.C x v
  | _ => False

theorem own_new {s0 : Sn} (hi : Inv s0) {new : Nat} (hd : s0.σ[new]? = some .dead) {blk : Blk} {c : Array Value} {e : TypeId} {fz : Nat × Nat} {w' : World}
    (hh : w'.heap = s0.w.heap.push (.cells c e fz)) (ho : w'.os = s0.w.os) (hp : w'.output = s0.w.output) (hf : Free fz 0 c.size) (hb : NewOk s0 c blk) :
    Inv ⟨s0.σ.set new blk, newμ s0.g new (some (s0.w.heap.size, 0)), w'⟩ ∧ Trans s0 ⟨s0.σ.set new blk, newμ s0.g new (some (s0.w.heap.size, 0)), w'⟩ := by
  have hself : (s0.σ.set new blk)[new]? = some blk := get_set_self hd
  have wr : ∀ b r o, b ≠ new → (Wr1 ⟨s0.σ.set new blk, newμ s0.g new (some (s0.w.heap.size, 0)), w'⟩ b r o ↔ Wr1 s0 b r o) := by
    intro b r o hne
    unfold Wr1
    simp only [newμ, if_neg hne, get_set_ne (Ne.symm hne)]
  have wrn : ∀ r o, Wr1 ⟨s0.σ.set new blk, newμ s0.g new (some (s0.w.heap.size, 0)), w'⟩ new r o → r = s0.w.heap.size := by
    intro r o h
    unfold Wr1 at h
    simp only [hself, newμ] at h
    split at h
    · obtain ⟨o0, m, _⟩ := h; simp at m; exact m.1.symm
    · obtain ⟨o0, m⟩ := h; simp at m; exact m.1.symm
    · obtain ⟨o0, m, _⟩ := h; simp at m; exact m.1.symm
    · exact h.elim
  have wlt : ∀ b r o, Wr1 s0 b r o → r < s0.w.heap.size := by
    intro b r o h
    unfold Wr1 at h
    split at h
    · rename_i cs hb
      obtain ⟨r', o', c', e', fz', m, k, _⟩ := hi.box b cs hb
      obtain ⟨o0, m', _⟩ := h
      rw [m] at m'; injection m' with m'; injection m' with m1 _
      exact m1 ▸ lt_of_cells k
    · rename_i hb
      obtain ⟨o0, m'⟩ := h
      rcases hi.arr b _ _ _ hb with ⟨m, _⟩ | ⟨r', c', e', fz', m, k, _⟩
      · rw [m] at m'; cases m'
      · rw [m] at m'; injection m' with m'; injection m' with m1 _
        exact m1 ▸ lt_of_cells k
    · rename_i hb
      obtain ⟨o0, m', _⟩ := h
      rcases hi.arr b _ _ _ hb with ⟨m, _⟩ | ⟨r', c', e', fz', m, k, _⟩
      · rw [m] at m'; cases m'
      · rw [m] at m'; injection m' with m'; injection m' with m1 _
        exact m1 ▸ lt_of_cells k
    · exact h.elim
  have t : Trans s0 ⟨s0.σ.set new blk, newμ s0.g new (some (s0.w.heap.size, 0)), w'⟩ := by
    obtain ⟨k1, k2, k3⟩ := kinds_new (s := ⟨s0.σ.set new blk, newμ s0.g new (some (s0.w.heap.size, 0)), w'⟩) hd rfl (some (s0.w.heap.size, 0)) rfl
    refine ⟨push_keep hh ho hp, fun _ _ h => h, fun _ _ h => .inl h, ?_, k1, k2, k3⟩
    rintro r o ⟨b, hb⟩
    by_cases e : b = new
    · subst e; exact .inr (Nat.le_of_eq (wrn r o hb).symm)
    · exact .inl ⟨b, (wr b r o e).1 hb⟩
  refine ⟨inv_of hi t (fun b => b = new) (fun b hne => ⟨get_set_ne (Ne.symm hne), if_neg hne⟩) (fun b r o v _ _ h => push_cell hh h) ?_ ?_ ?_ ?_ ?_ ?_, t⟩
  · rintro b cs rfl hb'
    rw [hself] at hb'; injection hb' with hb'; subst hb'
    obtain ⟨h1, h2⟩ := hb
    refine ⟨s0.w.heap.size, 0, c, e, fz, if_pos rfl, push_last hh, by omega, fun i x hx => ?_, fun o _ hl => hf o (Nat.zero_le _) (by omega)⟩
    obtain ⟨v, hv, hr, h1v⟩ := h2 i x hx
    exact ⟨v, by rw [Nat.zero_add]; exact hv, hr.mono hi t, h1v⟩
  · rintro b wm esz rows rfl hb'
    rw [hself] at hb'; injection hb' with hb'; subst hb'
    cases wm with
    | false => exact hb.elim
    | true =>
      obtain ⟨h1, h2, h3⟩ := hb
      refine .inr ⟨s0.w.heap.size, c, e, fz, if_pos rfl, push_last hh, h1, h2, fun i j row x hr hx => ⟨?_, fun h => by cases h⟩, hf⟩
      obtain ⟨v, hv, hr⟩ := h3 i j row x hr hx
      exact ⟨v, hv, hr.mono hi t⟩
  · rintro b1 b2 r o rfl h1 h2
    by_cases e : b2 = b1
    · exact e.symm
    · have := wlt _ _ _ ((wr b2 r o e).1 h2)
      have := wrn r o h1
      omega
  · intro r o hc
    show r < w'.heap.size
    rw [hh]; have := (hi.const r o hc).1; simp; omega
  · rintro r o b hc rfl h
    have := (hi.const r o hc).1
    have := wrn r o h
    omega
  · exact fun r o b hc hn => (hn hc).elim

theorem wr_lt {s0 : Sn} (hi : Inv s0) : ∀ b r o, Wr1 s0 b r o → r < s0.w.heap.size := by
  intro b r o h
  unfold Wr1 at h
  split at h
  · rename_i cs hb
    obtain ⟨r', o', c', e', fz', m, k, _⟩ := hi.box b cs hb
    obtain ⟨o0, m', _⟩ := h
    rw [m] at m'; injection m' with m'; injection m' with m1 _
    exact m1 ▸ lt_of_cells k
  · rename_i hb
    obtain ⟨o0, m'⟩ := h
    rcases hi.arr b _ _ _ hb with ⟨m, _⟩ | ⟨r', c', e', fz', m, k, _⟩
    · rw [m] at m'; cases m'
    · rw [m] at m'; injection m' with m'; injection m' with m1 _
      exact m1 ▸ lt_of_cells k
  · rename_i hb
    obtain ⟨o0, m', _⟩ := h
    rcases hi.arr b _ _ _ hb with ⟨m, _⟩ | ⟨r', c', e', fz', m, k, _⟩
    · rw [m] at m'; cases m'
    · rw [m] at m'; injection m' with m'; injection m' with m1 _
      exact m1 ▸ lt_of_cells k
  · exact h.elim

/-- An empty own array without memory. -/
theorem nil_new {s0 : Sn} (hi : Inv s0) {new : Nat} (hd : s0.σ[new]? = some .dead) (esz : Nat) :
    Inv ⟨s0.σ.set new (.arr true esz []), newμ s0.g new none, s0.w⟩ ∧ Trans s0 ⟨s0.σ.set new (.arr true esz []), newμ s0.g new none, s0.w⟩ := by
  have hself : (s0.σ.set new (Blk.arr true esz []))[new]? = some (.arr true esz []) := get_set_self hd
  have wr : ∀ b r o, b ≠ new → (Wr1 ⟨s0.σ.set new (.arr true esz []), newμ s0.g new none, s0.w⟩ b r o ↔ Wr1 s0 b r o) := by
    intro b r o hne
    unfold Wr1
    simp only [newμ, if_neg hne, get_set_ne (Ne.symm hne)]
  have wrn : ∀ r o, ¬ Wr1 ⟨s0.σ.set new (.arr true esz []), newμ s0.g new none, s0.w⟩ new r o := by
    intro r o h
    unfold Wr1 at h
    simp only [hself, newμ] at h
    simp at h
  have t : Trans s0 ⟨s0.σ.set new (.arr true esz []), newμ s0.g new none, s0.w⟩ := by
    obtain ⟨k1, k2, k3⟩ := kinds_new (s := ⟨s0.σ.set new (.arr true esz []), newμ s0.g new none, s0.w⟩) hd rfl none rfl
    refine ⟨.refl _ _, fun _ _ h => h, fun _ _ h => .inl h, ?_, k1, k2, k3⟩
    rintro r o ⟨b, hb⟩
    by_cases e : b = new
    · subst e; exact (wrn r o hb).elim
    · exact .inl ⟨b, (wr b r o e).1 hb⟩
  refine ⟨inv_of hi t (fun b => b = new) (fun b hne => ⟨get_set_ne (Ne.symm hne), if_neg hne⟩) (fun b r o v _ _ h => h) ?_ ?_ ?_ ?_ ?_ ?_, t⟩
  · rintro b cs rfl hb'
    rw [hself] at hb'; cases hb'
  · rintro b wm esz' rows rfl hb'
    rw [hself] at hb'; cases hb'
    exact .inl ⟨if_pos rfl, rfl⟩
  · rintro b1 b2 r o rfl h1 h2
    exact (wrn r o h1).elim
  · exact fun r o hc => (hi.const r o hc).1
  · rintro r o b hc rfl h
    exact wrn r o h
  · exact fun r o b hc hn => (hn hc).elim

def addC (g : Gh) (p : Nat → Nat → Prop) : Gh := ⟨g.μ, fun r o => g.C r o ∨ p r o⟩

/-- New constant memory. -/
theorem const_new {s0 : Sn} (hi : Inv s0) {x : Obj} {w' : World}
    (hh : w'.heap = s0.w.heap.push x) (ho : w'.os = s0.w.os) (hp : w'.output = s0.w.output) :
    Inv ⟨s0.σ, addC s0.g fun r _ => r = s0.w.heap.size, w'⟩ ∧ Trans s0 ⟨s0.σ, addC s0.g fun r _ => r = s0.w.heap.size, w'⟩ := by
  have t : Trans s0 ⟨s0.σ, addC s0.g fun r _ => r = s0.w.heap.size, w'⟩ := by
    refine ⟨push_keep hh ho hp, fun _ _ h => .inl h, fun r o h => ?_, fun r o h => .inl h, Nat.le_refl _, fun _ cs h => ⟨⟨cs, h, rfl⟩, rfl⟩,
      fun _ wm _ rows h => ⟨wm, rows, h, id, Nat.le_refl _, fun _ => rfl⟩⟩
    rcases h with h | h
    · exact .inl h
    · exact .inr (.inr (Nat.le_of_eq h.symm))
  refine ⟨inv_of hi t (fun _ => False) (fun _ _ => ⟨rfl, rfl⟩) (fun b r o v _ _ h => push_cell hh h) (fun _ _ h => h.elim) (fun _ _ _ _ h => h.elim)
    (fun _ _ _ _ h => h.elim) ?_ (fun _ _ _ _ h => h.elim) ?_, t⟩
  · intro r o hc
    show r < w'.heap.size
    rw [hh]
    rcases hc with hc | hc
    · have := (hi.const r o hc).1; simp; omega
    · simp; omega
  · intro r o b hc hn _ h
    rcases hc with hc | hc
    · exact hn hc
    · have := wr_lt hi b r o h; omega

/-- A world in which some cells of one block were written. -/
structure Put (r : Nat) (o : Nat) (vs : List Value) (w w' : World) : Prop where
  there : ∃ c e fz c', w.heap[r]? = some (.cells c e fz) ∧ w'.heap[r]? = some (.cells c' e fz) ∧ c'.size = c.size ∧ o + vs.length ≤ c.size ∧
    (∀ (j : Nat) v, vs[j]? = some v → c'[o + j]? = some v) ∧ ∀ k, (k < o ∨ o + vs.length ≤ k) → c'[k]? = c[k]?
  rest : ∀ r' : Nat, r' ≠ r → w'.heap[r']? = w.heap[r']?
  size : w'.heap.size = w.heap.size
  os : w'.os = w.os
  output : w'.output = w.output

theorem Put.keep {W : Nat → Nat → Prop} {r o vs w w'} (h : Put r o vs w w') (hw : ∀ k, o ≤ k → k < o + vs.length → W r k) : Keep W w w' := by
  obtain ⟨c, e, fz, c', h1, h2, h3, _, _, h5⟩ := h.there
  refine ⟨Nat.le_of_eq h.size.symm, fun r' c1 e1 fz1 hr => ?_, fun r' x hr hx => ?_, h.os, h.output⟩
  · by_cases e' : r' = r
    · subst e'
      rw [h1] at hr; injection hr with hr; injection hr with a1 a2 a3
      subst a1 a2 a3
      refine ⟨c', h2, h3, fun k hk => h5 k ?_⟩
      rcases Nat.lt_or_ge k o with h | h
      · exact .inl h
      · rcases Nat.lt_or_ge k (o + vs.length) with h' | h'
        · exact (hk (hw k h h')).elim
        · exact .inr h'
    · exact ⟨c1, by rw [h.rest r' e']; exact hr, rfl, fun _ _ => rfl⟩
  · by_cases e' : r' = r
    · subst e'; rw [h1] at hr; injection hr with hr; exact (hx _ _ _ hr.symm).elim
    · rw [h.rest r' e']; exact hr

theorem Put.cell {r o vs w w'} (h : Put r o vs w w') {r' k v} (hv : cellAt w r' k = some v) (hn : r' ≠ r ∨ k < o ∨ o + vs.length ≤ k) : cellAt w' r' k = some v := by
  obtain ⟨c, e, fz, c', h1, h2, h3, _, _, h5⟩ := h.there
  by_cases e' : r' = r
  · subst e'
    rw [cellAt_of h1] at hv
    rw [cellAt_of h2, h5 k (hn.resolve_left (fun h => h rfl)), hv]
  · unfold cellAt; rw [h.rest r' e']; exact hv

inductive SameKind : Blk → Blk → Prop where
  | box (cs cs' : List AV) : cs'.length = cs.length → SameKind (.box cs) (.box cs')
  | arr (esz : Nat) (rows rows' : List (List PV)) : rows'.length = rows.length → SameKind (.arr true esz rows) (.arr true esz rows')

/-- A write into a box or an own array: kind and size stay. -/
theorem write_blk {s0 : Sn} (hi : Inv s0) {b : Nat} {old blk : Blk} {r o : Nat} {vs : List Value} {w' : World} (hb : s0.σ[b]? = some old)
    (hput : Put r o vs s0.w w') (hw : ∀ k, o ≤ k → k < o + vs.length → Wr1 s0 b r k)
    (hk : SameKind old blk)
    (hbox : ∀ cs, blk = .box cs → (∀ {x v}, RelA s0 x v → RelA ⟨s0.σ.set b blk, s0.g, w'⟩ x v) → BoxOk ⟨s0.σ.set b blk, s0.g, w'⟩ b cs)
    (harr : ∀ esz rows, blk = .arr true esz rows → (∀ {x v}, RelP s0.w s0.g.C x v → RelP w' s0.g.C x v) → ArrOk ⟨s0.σ.set b blk, s0.g, w'⟩ b true esz rows) :
    Inv ⟨s0.σ.set b blk, s0.g, w'⟩ ∧ Trans s0 ⟨s0.σ.set b blk, s0.g, w'⟩ := by
  have hself : (s0.σ.set b blk)[b]? = some blk := get_set_self hb
  have wr : ∀ b' r o, (Wr1 ⟨s0.σ.set b blk, s0.g, w'⟩ b' r o ↔ Wr1 s0 b' r o) := by
    intro b' r o
    by_cases e : b' = b
    · subst e
      unfold Wr1
      simp only [hself, hb]
      cases hk with
      | box cs cs' hl => simp [hl]
      | arr esz rows rows' hl => simp
    · unfold Wr1
      simp only [get_set_ne (Ne.symm e)]
  have t : Trans s0 ⟨s0.σ.set b blk, s0.g, w'⟩ := by
    refine ⟨hput.keep fun k h1 h2 => ⟨b, hw k h1 h2⟩, fun _ _ h => h, fun _ _ h => .inl h, fun r o ⟨b', h⟩ => .inl ⟨b', (wr b' r o).1 h⟩, by simp, fun b' cs h => ?_, fun b' wm esz rows h => ?_⟩
    · by_cases e : b' = b
      · subst e
        rw [hb] at h; injection h with h; subst h
        cases hk with
        | box _ cs' hl => exact ⟨⟨_, hself, hl⟩, rfl⟩
      · exact ⟨⟨cs, by rw [← h]; exact get_set_ne (Ne.symm e), rfl⟩, rfl⟩
    · by_cases e : b' = b
      · subst e
        rw [hb] at h; injection h with h; subst h
        cases hk with
        | arr _ _ rows' hl => exact ⟨_, _, hself, id, Nat.le_of_eq hl.symm, fun _ => rfl⟩
      · exact ⟨wm, rows, by rw [← h]; exact get_set_ne (Ne.symm e), id, Nat.le_refl _, fun _ => rfl⟩
  refine ⟨inv_of hi t (fun b' => b' = b) (fun b' hne => ⟨get_set_ne (Ne.symm hne), rfl⟩) ?_ ?_ ?_ ?_ ?_ ?_ ?_, t⟩
  · intro b' r' k v hne hwr hv
    refine hput.cell hv ?_
    rcases Nat.lt_or_ge k o with h | h
    · exact .inr (.inl h)
    · rcases Nat.lt_or_ge k (o + vs.length) with h' | h'
      · refine .inl fun e => hne ?_
        subst e
        exact hi.apart _ _ _ _ hwr (hw k h h')
      · exact .inr (.inr h')
  · rintro b' cs rfl h
    rw [hself] at h; injection h with h; subst h
    exact hbox _ rfl fun h => h.mono hi t
  · rintro b' wm esz rows rfl h
    rw [hself] at h; injection h with h; subst h
    cases hk with
    | arr _ _ rows' hl => exact harr _ _ rfl fun h => h.mono hi t
  · rintro b1 b2 r o rfl h1 h2
    exact hi.apart _ _ _ _ ((wr _ _ _).1 h1) ((wr _ _ _).1 h2)
  · intro r o hc
    show r < w'.heap.size
    rw [hput.size]; exact (hi.const r o hc).1
  · rintro r o b' hc rfl h
    exact (hi.const r o hc).2 _ ((wr _ _ _).1 h)
  · exact fun r o b hc hn => (hn hc).elim

end Go.Am
