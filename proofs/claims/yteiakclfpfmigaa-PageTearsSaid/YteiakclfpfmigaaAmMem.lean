/-
  The abstract machine: freezing, and slices that grow.
-/
import Derived.Test.YteiakclfpfmigaaAmStep
set_option linter.unusedSimpArgs false
set_option linter.unusedVariables false
namespace Go.Am

theorem idx_lt {a b n e : Nat} (h1 : a < n) (h2 : b < e) : a * e + b < n * e := by
  have h : (a + 1) * e ≤ n * e := Nat.mul_le_mul_right e h1
  rw [Nat.succ_mul] at h
  omega

theorem lt_of_get {α : Type} {l : List α} {i : Nat} {x : α} (h : l[i]? = some x) : i < l.length := by
  rcases Nat.lt_or_ge i l.length with h' | h'
  · exact h'
  · simp [List.getElem?_eq_none h'] at h

theorem lt_of_getA {α : Type} {l : Array α} {i : Nat} {x : α} (h : l[i]? = some x) : i < l.size := by
  rcases Nat.lt_or_ge i l.size with h' | h'
  · exact h'
  · simp [Array.getElem?_eq_none h'] at h

theorem mem_of_get {α : Type} {l : List α} {i : Nat} {x : α} (h : l[i]? = some x) : x ∈ l := List.mem_of_getElem? h

/-- Own arrays of σ are in τ, perhaps constant by now. -/
def Frz (σ τ : List Blk) : Prop :=
  (∀ (b : Nat) wm esz rows, σ[b]? = some (Blk.arr wm esz rows) → ∃ wm', τ[b]? = some (Blk.arr wm' esz rows)) ∧
  (∀ (b : Nat) x, σ[b]? = some x → (∀ wm esz rows, x ≠ Blk.arr wm esz rows) → τ[b]? = some x)

theorem Frz.refl (σ) : Frz σ σ := ⟨fun _ wm _ _ h => ⟨wm, h⟩, fun _ _ h _ => h⟩
theorem Frz.trans {a b c} (h : Frz a b) (h' : Frz b c) : Frz a c :=
  ⟨fun n wm esz rows hn => let ⟨wm', h1⟩ := h.1 n wm esz rows hn; h'.1 n wm' esz rows h1, fun n x hn hx => h'.2 n x (h.2 n x hn hx) hx⟩

theorem freeze_blk {s0 : Sn} (hi : Inv s0) {b : Nat} {wm : Bool} {esz : Nat} {rows : List (List PV)} (hb : s0.σ[b]? = some (.arr wm esz rows)) :
    ∃ g', g'.μ = s0.g.μ ∧ Inv ⟨s0.σ.set b (.arr false esz rows), g', s0.w⟩ ∧ Trans s0 ⟨s0.σ.set b (.arr false esz rows), g', s0.w⟩ ∧
      Frz s0.σ (s0.σ.set b (.arr false esz rows)) := by
  have hself : (s0.σ.set b (.arr false esz rows))[b]? = some (.arr false esz rows) := get_set_self hb
  have hfrz : Frz s0.σ (s0.σ.set b (.arr false esz rows)) := by
    refine ⟨fun n wm' esz' rows' hn => ?_, fun n x hn hx => ?_⟩
    · by_cases e : n = b
      · subst e; rw [hb] at hn; injection hn with hn; injection hn with h1 h2 h3; subst h2 h3; exact ⟨_, hself⟩
      · exact ⟨wm', by rw [get_set_ne (Ne.symm e)]; exact hn⟩
    · by_cases e : n = b
      · subst e; rw [hb] at hn; injection hn with hn; exact (hx _ _ _ hn.symm).elim
      · rw [get_set_ne (Ne.symm e)]; exact hn
  cases wm with
  | false =>
    have hs : s0.σ.set b (.arr false esz rows) = s0.σ := by
      apply List.ext_getElem?
      intro n
      by_cases e : n = b
      · subst e; rw [hself, hb]
      · rw [get_set_ne (Ne.symm e)]
    refine ⟨s0.g, rfl, ?_, ?_, hfrz⟩
    · rw [hs]; exact hi
    · rw [hs]; exact Trans.refl s0
  | true =>
    refine ⟨addC s0.g fun r o => s0.g.μ b = some (r, 0) ∧ o < rows.length * esz, rfl, ?_⟩
    have wr : ∀ b' r o, Wr1 ⟨s0.σ.set b (.arr false esz rows), addC s0.g fun r o => s0.g.μ b = some (r, 0) ∧ o < rows.length * esz, s0.w⟩ b' r o → Wr1 s0 b' r o := by
      intro b' r o h
      by_cases e : b' = b
      · subst e
        unfold Wr1 at h ⊢
        simp only [hself, hb] at h ⊢
        obtain ⟨o0, m, _⟩ := h
        exact ⟨o0, m⟩
      · unfold Wr1 at h ⊢
        simp only [get_set_ne (Ne.symm e)] at h
        exact h
    have t : Trans s0 ⟨s0.σ.set b (.arr false esz rows), addC s0.g fun r o => s0.g.μ b = some (r, 0) ∧ o < rows.length * esz, s0.w⟩ := by
      refine ⟨.refl _ _, fun _ _ h => .inl h, fun r o h => ?_, fun r o ⟨b', h⟩ => .inl ⟨b', wr b' r o h⟩, by simp, fun b' cs h => ?_, fun b' wm esz' rows' h => ?_⟩
      · rcases h with h | ⟨h, _⟩
        · exact .inl h
        · refine .inr (.inl ⟨b, ?_⟩)
          unfold Wr1
          rw [hb]
          exact ⟨0, h⟩
      · refine ⟨⟨cs, hfrz.2 b' _ h (by simp), rfl⟩, rfl⟩
      · by_cases e : b' = b
        · subst e; rw [hb] at h; injection h with h; injection h with h1 h2 h3; subst h1 h2 h3
          exact ⟨false, rows, hself, by simp, Nat.le_refl _, fun _ => rfl⟩
        · exact ⟨wm, rows', by rw [← h]; exact get_set_ne (Ne.symm e), id, Nat.le_refl _, fun _ => rfl⟩
    refine ⟨inv_of hi t (fun b' => b' = b) (fun b' hne => ⟨get_set_ne (Ne.symm hne), rfl⟩) (fun _ _ _ _ _ _ h => h) ?_ ?_ ?_ ?_ ?_ ?_, t, hfrz⟩
    · rintro b' cs rfl h; rw [hself] at h; cases h
    · rintro b' wm esz' rows' rfl h
      rw [hself] at h; cases h
      rcases hi.arr _ _ _ _ hb with ⟨m, hr⟩ | ⟨r, c, e, fz, m, hh, hrow, hl, hx, hf⟩
      · exact .inl ⟨m, hr⟩
      · refine .inr ⟨r, c, e, fz, m, hh, hrow, hl, fun i j row x hir hjx => ?_, hf⟩
        obtain ⟨⟨v, hv, hr⟩, _⟩ := hx i j row x hir hjx
        refine ⟨⟨v, hv, hr.mono hi t⟩, fun _ => .inr ⟨m, ?_⟩⟩
        have h1 := lt_of_get hir
        have h2 := lt_of_get hjx
        rw [hrow row (mem_of_get hir)] at h2
        exact idx_lt h1 h2
    · rintro b1 b2 r o rfl h1 h2
      exact hi.apart _ _ _ _ (wr _ _ _ h1) (wr _ _ _ h2)
    · intro r o hc
      rcases hc with hc | ⟨hc, _⟩
      · exact (hi.const r o hc).1
      · rcases hi.arr _ _ _ _ hb with ⟨m, _⟩ | ⟨r', c, e, fz, m, hh, _⟩
        · rw [m] at hc; cases hc
        · rw [m] at hc; injection hc with hc; injection hc with hc _; exact hc ▸ lt_of_cells hh
    · rintro r o b' hc rfl h
      rcases hc with hc | ⟨hc, ho⟩
      · exact (hi.const r o hc).2 _ (wr _ _ _ h)
      · unfold Wr1 at h
        simp only [hself] at h
        obtain ⟨o0, _, hle⟩ := h
        omega
    · intro r o b' hc hn hne h
      rcases hc with hc | ⟨hc, ho⟩
      · exact hn hc
      · refine hne (hi.apart _ _ r o h ?_)
        unfold Wr1
        rw [hb]
        exact ⟨0, hc⟩

/-- What a slice value is, whatever its memory. -/
def SlRel (s : Sn) (esz : Nat) (rows : List (List PV)) (v : Value) : Prop :=
  ∃ a cap, v = .slice a rows.length cap ∧ rows.length ≤ cap ∧ (∀ row ∈ rows, row.length = esz) ∧
    (rows = [] ∨ ∃ r o, a = some ⟨r, o, none⟩ ∧ ∀ (i j : Nat) row x, rows[i]? = some row → row[j]? = some x → ∃ u, cellAt s.w r (o + i * esz + j) = some u ∧ RelP s.w s.g.C x u)

theorem SlRel.of_sl {s : Sn} {esz rows v} (h : RelP s.w s.g.C (.sl esz rows) v) : SlRel s esz rows v := by
  cases h with
  | sl0 _ a cap => exact ⟨a, cap, rfl, Nat.zero_le _, (fun _ h => by cases h), .inl rfl⟩
  | sl _ _ r o cap vals h1 h2 h3 h4 => exact ⟨_, cap, rfl, h1, h2, .inr ⟨r, o, rfl, fun i j row x hr hx => ⟨_, (h3 i j row x hr hx).2, h4 i j row x hr hx⟩⟩⟩

theorem SlRel.of_slr {s : Sn} (hi : Inv s) {b i n v wm esz rows} (h : RelA s (.slr b i n) v) (hb : s.σ[b]? = some (.arr wm esz rows)) (e : i + n = rows.length) :
    SlRel s esz (rows.drop i) v := by
  cases h with
  | slr _ _ _ _ wm' esz' rows' _ h1 h2 h3 =>
    rw [hb] at h1; injection h1 with h1; injection h1 with a1 a2 a3; subst a1 a2 a3
    have hl : (rows.drop i).length = n := by simp; omega
    rcases h3 e with ⟨m, hi0, hn, hv⟩ | ⟨r, cap, c, e1, fz, m, hv, hcap, hh, hs⟩
    · subst hi0 hn
      have : rows = [] := by apply List.eq_nil_of_length_eq_zero; omega
      subst this
      exact ⟨none, 0, by simp [hv], by simp, by simp, .inl rfl⟩
    · rcases hi.arr b wm esz rows hb with ⟨m', _⟩ | ⟨r', c', e', fz', m', hh', hrow, hlen, hx, _⟩
      · rw [m] at m'; cases m'
      · rw [m] at m'; injection m' with m'; injection m' with m' _; subst m'
        refine ⟨some ⟨r, i * esz, none⟩, cap, by rw [hl]; exact hv, by omega, fun row hr => hrow row (List.mem_of_mem_drop hr), .inr ⟨r, i * esz, rfl, fun k j row x hk hj => ?_⟩⟩
        rw [List.getElem?_drop] at hk
        obtain ⟨⟨u, hu, hr⟩, _⟩ := hx (i + k) j row x hk hj
        refine ⟨u, ?_, hr⟩
        rw [cellAt_of hh', ← hu]
        congr 1
        rw [Nat.add_mul]

theorem SlRel.mono {s0 s : Sn} (hi : Inv s0) (t : Trans s0 s) {esz rows v} (h : SlRel s0 esz rows v) (hc : ∀ r o u, cellAt s0.w r o = some u → cellAt s.w r o = some u) : SlRel s esz rows v := by
  obtain ⟨a, cap, h1, h2, h3, h4⟩ := h
  refine ⟨a, cap, h1, h2, h3, h4.imp id ?_⟩
  rintro ⟨r, o, ha, hx⟩
  exact ⟨r, o, ha, fun i j row x hr hj => let ⟨u, h5, h6⟩ := hx i j row x hr hj; ⟨u, hc _ _ _ h5, h6.mono hi t⟩⟩

/-- A slice of constant cells is a plain value. -/
theorem sl_of_const {s : Sn} {esz : Nat} {rows : List (List PV)} {v : Value} {a : Option Addr} {cap : Nat} (hv : v = .slice a rows.length cap) (hcap : rows.length ≤ cap)
    (hrow : ∀ row ∈ rows, row.length = esz)
    (hx : rows = [] ∨ ∃ r o, a = some ⟨r, o, none⟩ ∧ ∀ (i j : Nat) row x, rows[i]? = some row → row[j]? = some x → s.g.C r (o + i * esz + j) ∧ ∃ u, cellAt s.w r (o + i * esz + j) = some u ∧ RelP s.w s.g.C x u) :
    RelP s.w s.g.C (.sl esz rows) v := by
  subst hv
  rcases hx with rfl | ⟨r, o, rfl, hx⟩
  · exact .sl0 _ _ _
  · refine .sl esz rows r o cap (fun i j => (cellAt s.w r (o + i * esz + j)).getD .nilFunc) hcap hrow (fun i j row x hr hj => ?_) fun i j row x hr hj => ?_
    · obtain ⟨h1, u, h2, _⟩ := hx i j row x hr hj
      exact ⟨h1, by simp [h2]⟩
    · obtain ⟨_, u, h2, h3⟩ := hx i j row x hr hj
      simpa [h2] using h3

/-- An own array made constant: its slices are plain. -/
theorem freeze_sl {s0 : Sn} (hi : Inv s0) {b i n : Nat} {v : Value} {wm : Bool} {esz : Nat} {rows : List (List PV)} (h : RelA s0 (.slr b i n) v) (hb : s0.σ[b]? = some (.arr wm esz rows))
    (e : i + n = rows.length) :
    ∃ g', Inv ⟨s0.σ.set b (.arr false esz rows), g', s0.w⟩ ∧ Trans s0 ⟨s0.σ.set b (.arr false esz rows), g', s0.w⟩ ∧
      Frz s0.σ (s0.σ.set b (.arr false esz rows)) ∧ RelP s0.w g'.C (.sl esz (rows.drop i)) v := by
  obtain ⟨g', hμ, hi', t, hf⟩ := freeze_blk hi hb
  refine ⟨g', hi', t, hf, ?_⟩
  have h' := h.mono hi t
  have hb' : (s0.σ.set b (.arr false esz rows))[b]? = some (.arr false esz rows) := get_set_self hb
  obtain ⟨a, cap, h1, h2, h3, h4⟩ := SlRel.of_slr hi' h' hb' e
  refine sl_of_const (s := ⟨s0.σ.set b (.arr false esz rows), g', s0.w⟩) h1 h2 h3 (h4.imp id ?_)
  rintro ⟨r, o, rfl, hx⟩
  refine ⟨r, o, rfl, fun k j row x hk hj => ⟨?_, hx k j row x hk hj⟩⟩
  cases h' with
  | slr _ _ _ _ wm' esz' rows' _ q1 q2 q3 =>
    have q1' : (s0.σ.set b (.arr false esz rows))[b]? = some (.arr wm' esz' rows') := q1
    rw [hb'] at q1'; injection q1' with q1'; injection q1' with a1 a2 a3; subst a1 a2 a3
    rcases q3 e with ⟨m, hi0, hn, hv⟩ | ⟨r', cap', c, e1, fz, m, hv, hcap, hh, hs⟩
    · rw [h1] at hv; simp at hv
    · rw [h1] at hv; injection hv with v1 v2 v3; injection v1 with v1; injection v1 with v1 v4; subst v1 v4
      rcases hi'.arr b false esz rows hb' with ⟨m', _⟩ | ⟨r', c', e', fz', m', hh', hrow, hlen, hx', _⟩
      · rw [m] at m'; cases m'
      · rw [m] at m'; injection m' with m'; injection m' with m' _; subst m'
        rw [List.getElem?_drop] at hk
        have := (hx' (i + k) j row x hk hj).2 rfl
        rw [Nat.add_mul] at this
        exact this

end Go.Am
