/-
  The abstract machine: an own array that grows, in place or into new memory.
-/
import Derived.Test.YteiakclfpfmigaaAmMem
set_option linter.unusedSimpArgs false
set_option linter.unusedVariables false
namespace Go.Am

theorem get_app {α : Type} {a b : List α} {i : Nat} {x : α} (h : (a ++ b)[i]? = some x) : a[i]? = some x ∨ (a.length ≤ i ∧ b[i - a.length]? = some x) := by
  rw [List.getElem?_append] at h
  split at h
  · exact .inl h
  · exact .inr ⟨by omega, h⟩

def GrowC (g : Gh) (wm : Bool) (r lo hi : Nat) : Gh := addC g fun r' o => wm = false ∧ r' = r ∧ lo ≤ o ∧ o < hi

theorem grow_in {s0 : Sn} (hi : Inv s0) {b : Nat} {wm : Bool} {esz : Nat} {rows new : List (List PV)} {r : Nat} {vs : List Value} {w' : World}
    (hb : s0.σ[b]? = some (.arr wm esz rows)) (hm : s0.g.μ b = some (r, 0)) (hnew : ∀ row ∈ new, row.length = esz)
    (hput : Put r (rows.length * esz) vs s0.w w') (hlen : vs.length = new.length * esz)
    (hx : ∀ (i j : Nat) row x, new[i]? = some row → row[j]? = some x → ∃ u, vs[i * esz + j]? = some u ∧ RelP s0.w s0.g.C x u) :
    Inv ⟨s0.σ.set b (.arr wm esz (rows ++ new)), GrowC s0.g wm r (rows.length * esz) ((rows.length + new.length) * esz), w'⟩ ∧
    Trans s0 ⟨s0.σ.set b (.arr wm esz (rows ++ new)), GrowC s0.g wm r (rows.length * esz) ((rows.length + new.length) * esz), w'⟩ := by
  have hself : (s0.σ.set b (.arr wm esz (rows ++ new)))[b]? = some (.arr wm esz (rows ++ new)) := get_set_self hb
  have hadd : (rows.length + new.length) * esz = rows.length * esz + new.length * esz := Nat.add_mul _ _ _
  generalize hs : (⟨s0.σ.set b (.arr wm esz (rows ++ new)), GrowC s0.g wm r (rows.length * esz) ((rows.length + new.length) * esz), w'⟩ : Sn) = s
  have hσ : s.σ = s0.σ.set b (.arr wm esz (rows ++ new)) := by rw [← hs]
  have hμ : s.g.μ = s0.g.μ := by rw [← hs]; rfl
  have hC : ∀ r' o, s.g.C r' o ↔ s0.g.C r' o ∨ (wm = false ∧ r' = r ∧ rows.length * esz ≤ o ∧ o < (rows.length + new.length) * esz) := by rw [← hs]; exact fun _ _ => Iff.rfl
  have hw : s.w = w' := by rw [← hs]
  have wr : ∀ b' r' o, Wr1 s b' r' o → Wr1 s0 b' r' o := by
    intro b' r' o h
    by_cases e : b' = b
    · subst e
      unfold Wr1 at h ⊢
      rw [hσ, hself] at h
      rw [hb]
      cases wm with
      | true => rw [hμ] at h; exact h
      | false =>
        rw [hμ] at h
        obtain ⟨o0, m, hle⟩ := h
        refine ⟨o0, m, Nat.le_trans (Nat.mul_le_mul_right _ ?_) hle⟩
        simp
    · unfold Wr1 at h ⊢
      rw [hσ, hμ, get_set_ne (Ne.symm e)] at h
      exact h
  have wself : ∀ o, rows.length * esz ≤ o → Wr1 s0 b r o := by
    intro o ho
    unfold Wr1
    rw [hb]
    cases wm with
    | true => exact ⟨0, hm⟩
    | false => exact ⟨0, hm, ho⟩
  have t : Trans s0 s := by
    refine ⟨?_, fun r o h => (hC r o).2 (.inl h), fun r' o h => ?_, fun r o ⟨b', h⟩ => .inl ⟨b', wr b' r o h⟩, by rw [hσ]; simp, fun b' cs h => ?_, fun b' wm' esz' rows' h => ?_⟩
    · rw [hw]; exact hput.keep fun k h1 _ => ⟨b, wself k h1⟩
    · rcases (hC r' o).1 h with h | ⟨_, e, h, _⟩
      · exact .inl h
      · subst e; exact .inr (.inl ⟨b, wself o h⟩)
    · have e : b' ≠ b := by rintro rfl; rw [hb] at h; cases h
      exact ⟨⟨cs, by rw [hσ, get_set_ne (Ne.symm e)]; exact h, rfl⟩, by rw [hμ]⟩
    · by_cases e : b' = b
      · subst e; rw [hb] at h; injection h with h; injection h with h1 h2 h3; subst h1 h2 h3
        exact ⟨wm, rows ++ new, by rw [hσ]; exact hself, id, by simp, fun _ => by rw [hμ]⟩
      · exact ⟨wm', rows', by rw [hσ, get_set_ne (Ne.symm e)]; exact h, id, Nat.le_refl _, fun _ => by rw [hμ]⟩
  refine ⟨inv_of hi t (fun b' => b' = b) (fun b' hne => ⟨by rw [hσ]; exact get_set_ne (Ne.symm hne), by rw [hμ]⟩) ?_ ?_ ?_ ?_ ?_ ?_ ?_, t⟩
  · intro b' r' k v hne hwr hv
    rw [hw]
    refine hput.cell hv ?_
    by_cases er : r' = r
    · subst er
      rcases Nat.lt_or_ge k (rows.length * esz) with h | h
      · exact .inr (.inl h)
      · exact (hne (hi.apart _ _ _ _ hwr (wself k h))).elim
    · exact .inl er
  · rintro b' cs rfl h; rw [hσ, hself] at h; cases h
  · rintro b' wm' esz' rows' rfl h
    rw [hσ, hself] at h; cases h
    obtain ⟨c, e, fz, c', p1, p2, p3, p4, p5, p6⟩ := hput.there
    rcases hi.arr _ _ _ _ hb with ⟨m, _⟩ | ⟨r', c0, e0, fz0, m, hh, hrow, hl, hx0, hf⟩
    · rw [hm] at m; cases m
    · rw [hm] at m; injection m with m; injection m with m _; subst m
      rw [p1] at hh; injection hh with hh; injection hh with q1 q2 q3; subst q1 q2 q3
      refine .inr ⟨r, c', e, fz, by rw [hμ]; exact hm, by rw [hw]; exact p2, ?_, ?_, ?_, ?_⟩
      · intro row hr
        rcases List.mem_append.1 hr with hr | hr
        · exact hrow row hr
        · exact hnew row hr
      · simp only [List.length_append]; rw [hadd]; omega
      · intro i j row x hir hjx
        rcases get_app hir with hir | ⟨hge, hir⟩
        · obtain ⟨⟨v, hv, hr⟩, hc⟩ := hx0 i j row x hir hjx
          have h1 := lt_of_get hir
          have h2 := lt_of_get hjx
          rw [hrow row (mem_of_get hir)] at h2
          have := idx_lt h1 h2
          exact ⟨⟨v, by rw [p6 _ (.inl this)]; exact hv, hr.mono hi t⟩, fun e => (hC _ _).2 (.inl (hc e))⟩
        · obtain ⟨u, hu, hr⟩ := hx _ j row x hir hjx
          have h1 := lt_of_get hir
          have h2 := lt_of_get hjx
          rw [hnew row (mem_of_get hir)] at h2
          have h3 := idx_lt h1 h2
          have h4 : i * esz + j = rows.length * esz + ((i - rows.length) * esz + j) := by
            rw [← Nat.add_assoc, ← Nat.add_mul, Nat.add_sub_cancel' hge]
          refine ⟨⟨u, by rw [h4]; exact p5 _ u hu, hr.mono hi t⟩, fun e => (hC _ _).2 (.inr ⟨e, rfl, by omega, by rw [hadd]; omega⟩)⟩
      · rw [p3]; exact hf
  · rintro b1 b2 r o rfl h1 h2
    exact hi.apart _ _ _ _ (wr _ _ _ h1) (wr _ _ _ h2)
  · intro r' o hc
    rw [hw, hput.size]
    rcases (hC r' o).1 hc with hc | ⟨_, e, _⟩
    · exact (hi.const r' o hc).1
    · subst e; exact wr_lt hi b _ _ (wself _ (Nat.le_refl _))
  · rintro r' o b' hc rfl h
    rcases (hC r' o).1 hc with hc | ⟨e, er, hlo, hhi⟩
    · exact (hi.const r' o hc).2 _ (wr _ _ _ h)
    · subst e er
      unfold Wr1 at h
      rw [hσ, hself] at h
      obtain ⟨o0, _, hle⟩ := h
      simp only [List.length_append] at hle
      omega
  · intro r' o b' hc hn hne h
    rcases (hC r' o).1 hc with hc | ⟨e, er, hlo, hhi⟩
    · exact hn hc
    · subst er
      exact hne (hi.apart _ _ _ o h (wself o hlo))

theorem grow_new {s0 : Sn} (hi : Inv s0) {b : Nat} {wm : Bool} {esz : Nat} {rows new : List (List PV)} {c : Array Value} {e : TypeId} {w' : World}
    (hb : s0.σ[b]? = some (.arr wm esz rows)) (hne : new ≠ []) (hrows : ∀ row ∈ rows, row.length = esz) (hnew : ∀ row ∈ new, row.length = esz)
    (hh : w'.heap = s0.w.heap.push (.cells c e (0, 0))) (ho : w'.os = s0.w.os) (hp : w'.output = s0.w.output)
    (hsize : (rows.length + new.length) * esz ≤ c.size)
    (hx : ∀ (i j : Nat) row x, (rows ++ new)[i]? = some row → row[j]? = some x → ∃ u, c[i * esz + j]? = some u ∧ RelP s0.w s0.g.C x u) :
    ∃ g', g'.μ b = some (s0.w.heap.size, 0) ∧ Inv ⟨s0.σ.set b (.arr wm esz (rows ++ new)), g', w'⟩ ∧ Trans s0 ⟨s0.σ.set b (.arr wm esz (rows ++ new)), g', w'⟩ := by
  have hself : (s0.σ.set b (.arr wm esz (rows ++ new)))[b]? = some (.arr wm esz (rows ++ new)) := get_set_self hb
  refine ⟨⟨fun b' => if b' = b then some (s0.w.heap.size, 0) else s0.g.μ b', fun r o => s0.g.C r o ∨ (wm = false ∧ r = s0.w.heap.size ∧ o < (rows.length + new.length) * esz)⟩, if_pos rfl, ?_⟩
  generalize hs : (⟨s0.σ.set b (.arr wm esz (rows ++ new)), _, w'⟩ : Sn) = s
  have hσ : s.σ = s0.σ.set b (.arr wm esz (rows ++ new)) := by rw [← hs]
  have hμ : ∀ b', s.g.μ b' = if b' = b then some (s0.w.heap.size, 0) else s0.g.μ b' := by rw [← hs]; exact fun _ => rfl
  have hC : ∀ r' o, s.g.C r' o ↔ s0.g.C r' o ∨ (wm = false ∧ r' = s0.w.heap.size ∧ o < (rows.length + new.length) * esz) := by rw [← hs]; exact fun _ _ => Iff.rfl
  have hw : s.w = w' := by rw [← hs]
  have hpos : 0 < new.length := List.length_pos_iff.2 hne
  have wr : ∀ b' r' o, b' ≠ b → (Wr1 s b' r' o ↔ Wr1 s0 b' r' o) := by
    intro b' r' o e
    unfold Wr1
    rw [hσ, hμ, if_neg e, get_set_ne (Ne.symm e)]
  have wrb : ∀ r' o, Wr1 s b r' o → r' = s0.w.heap.size ∧ (wm = false → (rows.length + new.length) * esz ≤ o) := by
    intro r' o h
    unfold Wr1 at h
    rw [hσ, hself, hμ, if_pos rfl] at h
    cases wm with
    | true => obtain ⟨o0, m⟩ := h; simp at m; exact ⟨m.1.symm, fun h => by cases h⟩
    | false => obtain ⟨o0, m, hle⟩ := h; simp at m; simp only [List.length_append] at hle; exact ⟨m.1.symm, fun _ => hle⟩
  have t : Trans s0 s := by
    refine ⟨?_, fun r o h => (hC r o).2 (.inl h), fun r' o h => ?_, fun r o ⟨b', h⟩ => ?_, by rw [hσ]; simp, fun b' cs h => ?_, fun b' wm' esz' rows' h => ?_⟩
    · rw [hw]; exact push_keep hh ho hp
    · rcases (hC r' o).1 h with h | ⟨_, h, _⟩
      · exact .inl h
      · exact .inr (.inr (Nat.le_of_eq h.symm))
    · by_cases eb : b' = b
      · subst eb; exact .inr (Nat.le_of_eq (wrb r o h).1.symm)
      · exact .inl ⟨b', (wr b' r o eb).1 h⟩
    · have eb : b' ≠ b := by rintro rfl; rw [hb] at h; cases h
      exact ⟨⟨cs, by rw [hσ, get_set_ne (Ne.symm eb)]; exact h, rfl⟩, by rw [hμ, if_neg eb]⟩
    · by_cases eb : b' = b
      · subst eb; rw [hb] at h; injection h with h; injection h with h1 h2 h3; subst h1 h2 h3
        exact ⟨wm, rows ++ new, by rw [hσ]; exact hself, id, by simp, fun h => by simp at h; exact (hne h).elim⟩
      · exact ⟨wm', rows', by rw [hσ, get_set_ne (Ne.symm eb)]; exact h, id, Nat.le_refl _, fun _ => by rw [hμ, if_neg eb]⟩
  refine ⟨inv_of hi t (fun b' => b' = b) (fun b' hn => ⟨by rw [hσ]; exact get_set_ne (Ne.symm hn), by rw [hμ, if_neg hn]⟩) (fun b r o v _ _ h => by rw [hw]; exact push_cell hh h) ?_ ?_ ?_ ?_ ?_ ?_, t⟩
  · rintro b' cs rfl h; rw [hσ, hself] at h; cases h
  · rintro b' wm' esz' rows' rfl h
    rw [hσ, hself] at h; cases h
    refine .inr ⟨s0.w.heap.size, c, e, (0, 0), by rw [hμ, if_pos rfl], by rw [hw]; exact push_last hh, ?_, by simp only [List.length_append]; exact hsize, ?_, fun o _ _ h => by simp at h⟩
    · intro row hr
      rcases List.mem_append.1 hr with hr | hr
      · exact hrows row hr
      · exact hnew row hr
    · intro i j row x hir hjx
      obtain ⟨u, hu, hr⟩ := hx i j row x hir hjx
      refine ⟨⟨u, hu, hr.mono hi t⟩, fun ew => (hC _ _).2 (.inr ⟨ew, rfl, ?_⟩)⟩
      have h1 := lt_of_get hir
      have h2 := lt_of_get hjx
      have h3 : row.length = esz := by
        rcases List.mem_append.1 (mem_of_get hir) with hr | hr
        · exact hrows row hr
        · exact hnew row hr
      rw [h3] at h2
      simp only [List.length_append] at h1
      exact idx_lt h1 h2
  · rintro b1 b2 r o rfl h1 h2
    by_cases eb : b2 = b1
    · exact eb.symm
    · have := wr_lt hi _ _ _ ((wr b2 r o eb).1 h2)
      have := (wrb r o h1).1
      omega
  · intro r' o hc
    rw [hw, hh]
    rcases (hC r' o).1 hc with hc | ⟨_, hc, _⟩
    · have := (hi.const r' o hc).1; simp; omega
    · simp; omega
  · rintro r' o b' hc rfl h
    have h1 := wrb _ _ h
    rcases (hC r' o).1 hc with hc | ⟨e1, hc, ho⟩
    · have := (hi.const r' o hc).1; omega
    · have := h1.2 e1; omega
  · intro r' o b' hc hn hne h
    rcases (hC r' o).1 hc with hc | ⟨_, hc, _⟩
    · exact hn hc
    · have := wr_lt hi _ _ _ h; omega

end Go.Am
