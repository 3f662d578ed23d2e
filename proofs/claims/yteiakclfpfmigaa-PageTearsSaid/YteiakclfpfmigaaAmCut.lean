/-
  The abstract machine: blocks that are left behind.
-/
import Derived.Test.YteiakclfpfmigaaAmOpsB
import Derived.Test.YteiakclfpfmigaaAmStat2
set_option linter.unusedSimpArgs false
set_option linter.unusedVariables false
namespace Go.Am

theorem RelP.weaken {w : World} {C C' : Nat → Nat → Prop} (h : ∀ r o, C r o → C' r o) {x v} (hr : RelP w C x v) : RelP w C' x v := by
  induction hr with
  | b x => exact .b x
  | i k n => exact .i k n
  | s l => exact .s l
  | np => exact .np
  | nf => exact .nf
  | sl0 esz a cap => exact .sl0 esz a cap
  | sl esz rows r o cap vals h1 h2 h3 _ ih => exact .sl esz rows r o cap vals h1 h2 (fun i j row x hr hx => ⟨h _ _ (h3 i j row x hr hx).1, (h3 i j row x hr hx).2⟩) ih

/-- A store whose blocks are some of another one's. -/
theorem inv_sel {s c : Sn} (hi : Inv s) (hw : c.w = s.w) (hbox : ∀ k cs, c.σ[k]? = some (.box cs) → BoxOk c k cs) (harr : ∀ k wm esz rows, c.σ[k]? = some (.arr wm esz rows) → ArrOk c k wm esz rows)
    (id : Nat → Nat) (inj : ∀ k1 k2, k1 < c.σ.length → k2 < c.σ.length → id k1 = id k2 → k1 = k2) (wr : ∀ k r o, Wr1 c k r o → Wr1 s (id k) r o)
    (hC : ∀ r o, c.g.C r o → r < s.w.heap.size ∧ ∀ k, ¬ Wr1 c k r o) : Inv c := by
  have hlt : ∀ k r o, Wr1 c k r o → k < c.σ.length := by
    intro k r o h
    unfold Wr1 at h
    cases hk : c.σ[k]? with
    | none => rw [hk] at h; exact h.elim
    | some b => exact lt_of_get hk
  exact ⟨hbox, harr, fun k1 k2 r o h1 h2 => inj k1 k2 (hlt _ _ _ h1) (hlt _ _ _ h2) (hi.apart _ _ _ _ (wr _ _ _ h1) (wr _ _ _ h2)), fun r o h => by rw [hw]; exact hC r o h⟩

theorem finL_some {m ids sto} : ∀ {xs ys : List AV}, fin.finL m ids sto xs = some ys → xs.length = ys.length ∧ ∀ (i : Nat) x y, xs[i]? = some x → ys[i]? = some y → fin m ids sto x = some y
  | [], ys, h => by simp [fin.finL] at h; subst h; exact ⟨rfl, fun i x y h => by simp at h⟩
  | x :: xs, ys, h => by
    simp only [fin.finL] at h
    split at h
    · rename_i y l hy hl
      injection h with h; subst h
      obtain ⟨h1, h2⟩ := finL_some hl
      refine ⟨by simp [h1], fun i a b ha hb => ?_⟩
      cases i with
      | zero => simp at ha hb; subst ha hb; exact hy
      | succ i => exact h2 i a b (by simpa using ha) (by simpa using hb)
    · cases h

theorem finBs_some {m ids sto} : ∀ {xs ys : List Blk}, finBs m ids sto xs = some ys → xs.length = ys.length ∧ ∀ (i : Nat) x y, xs[i]? = some x → ys[i]? = some y → finB m ids sto x = some y
  | [], ys, h => by simp [finBs] at h; subst h; exact ⟨rfl, fun i x y h => by simp at h⟩
  | x :: xs, ys, h => by
    simp only [finBs] at h
    split at h
    · rename_i y l hy hl
      injection h with h; subst h
      obtain ⟨h1, h2⟩ := finBs_some hl
      refine ⟨by simp [h1], fun i a b ha hb => ?_⟩
      cases i with
      | zero => simp at ha hb; subst ha hb; exact hy
      | succ i => exact h2 i a b (by simpa using ha) (by simpa using hb)
    · cases h

theorem pickB_some {sto} : ∀ {ids : List Nat} {ys : List Blk}, pickB sto ids = some ys → ids.length = ys.length ∧ ∀ (i : Nat) b y, ids[i]? = some b → ys[i]? = some y → sto[b]? = some y
  | [], ys, h => by simp [pickB] at h; subst h; exact ⟨rfl, fun i x y h => by simp at h⟩
  | x :: xs, ys, h => by
    simp only [pickB] at h
    split at h
    · rename_i y l hy hl
      injection h with h; subst h
      obtain ⟨h1, h2⟩ := pickB_some hl
      refine ⟨by simp [h1], fun i a b ha hb => ?_⟩
      cases i with
      | zero => simp at ha hb; subst ha hb; exact hy
      | succ i => exact h2 i a b (by simpa using ha) (by simpa using hb)
    · cases h

theorem idxN_some {b : Nat} : ∀ {ids : List Nat} {k j : Nat}, idxN b ids k = some j → k ≤ j ∧ ids[j - k]? = some b
  | [], k, j, h => by simp [idxN] at h
  | x :: r, k, j, h => by
    simp only [idxN] at h
    split at h
    · rename_i hx; injection h with h; subst h; exact ⟨Nat.le_refl _, by simp [hx]⟩
    · obtain ⟨h1, h2⟩ := idxN_some h
      refine ⟨by omega, ?_⟩
      rw [show j - k = (j - (k + 1)) + 1 by omega]
      simpa using h2

theorem idxN_none {b : Nat} : ∀ {ids : List Nat} {k : Nat}, idxN b ids k = none → b ∉ ids
  | [], _, _ => by simp
  | x :: r, k, h => by
    simp only [idxN] at h
    split at h
    · cases h
    · rename_i hx
      simp only [List.mem_cons, not_or]
      exact ⟨fun e => hx e.symm, idxN_none h⟩

theorem nodupB_iff : ∀ {l : List Nat}, nodupB l = true → l.Nodup
  | [], _ => List.nodup_nil
  | x :: r, h => by
    simp only [nodupB, Bool.and_eq_true, Bool.not_eq_true'] at h
    refine List.nodup_cons.2 ⟨?_, nodupB_iff h.2⟩
    intro hm
    have : r.contains x = true := by simpa using hm
    rw [this] at h; cases h.1

theorem nodup_inj {α : Type} : ∀ {l : List α}, l.Nodup → ∀ {i j : Nat} {x : α}, l[i]? = some x → l[j]? = some x → i = j
  | [], _, i, j, x, h, _ => by simp at h
  | y :: l, h, i, j, x, h1, h2 => by
    obtain ⟨hn, hl⟩ := List.nodup_cons.1 h
    cases i with
    | zero =>
      cases j with
      | zero => rfl
      | succ j => simp at h1 h2; subst h1; exact absurd (mem_of_get h2) hn
    | succ i =>
      cases j with
      | zero => simp at h1 h2; subst h2; exact absurd (mem_of_get h1) hn
      | succ j => exact congrArg (· + 1) (nodup_inj hl (i := i) (j := j) (x := x) (by simpa using h1) (by simpa using h2))

def cutC (s : Sn) (m : Nat) (ids : List Nat) : Nat → Nat → Prop := fun r o =>
  s.g.C r o ∨ ∃ b wm esz rows, m ≤ b ∧ b ∉ ids ∧ s.σ[b]? = some (Blk.arr wm esz rows) ∧ s.g.μ b = some (r, 0) ∧ o < rows.length * esz

/-- The blocks below m, and the listed ones behind them. -/
def cutSn (s : Sn) (m : Nat) (ids : List Nat) (σ : List Blk) : Sn :=
  ⟨σ, ⟨fun k => if k < m then s.g.μ k else match ids[k - m]? with
    | some b => s.g.μ b
    | none => none, cutC s m ids⟩, s.w⟩

section
variable {s : Sn} {m : Nat} {ids : List Nat} {l q q' : List Blk}

def idOf (m : Nat) (ids : List Nat) (k : Nat) : Nat := if k < m then k else (ids[k - m]?).getD 0

structure CutOk (s : Sn) (m : Nat) (ids : List Nat) (σ : List Blk) : Prop where
  inv : Inv s
  le : m ≤ s.σ.length
  nodup : ids.Nodup
  ge : ∀ b ∈ ids, m ≤ b
  len : σ.length = m + ids.length
  blk : ∀ k x, σ[k]? = some x → ∃ y, s.σ[idOf m ids k]? = some y ∧ finB m ids s.σ y = some x

variable {σ : List Blk} (h : CutOk s m ids σ)

theorem cut_μ (k : Nat) (hk : k < m + ids.length) : (cutSn s m ids σ).g.μ k = s.g.μ (idOf m ids k) := by
  simp only [cutSn, idOf]
  split
  · rfl
  · have : k - m < ids.length := by omega
    simp [this]

include h in
theorem cut_blk {k : Nat} {x : Blk} (hk : σ[k]? = some x) : k < m + ids.length ∧ ∃ y, s.σ[idOf m ids k]? = some y ∧ finB m ids s.σ y = some x := by
  have := lt_of_get hk
  exact ⟨by rw [← h.len]; exact this, h.blk k x hk⟩

include h in
theorem cut_at {b k : Nat} {y : Blk} (hid : idOf m ids k = b) (hk : k < m + ids.length) (hb : s.σ[b]? = some y) : ∃ x, σ[k]? = some x ∧ finB m ids s.σ y = some x := by
  have hlt : k < σ.length := by rw [h.len]; exact hk
  obtain ⟨y', h1, h2⟩ := h.blk k σ[k] (List.getElem?_eq_getElem hlt)
  rw [hid, hb] at h1; injection h1 with h1; subst h1
  exact ⟨_, List.getElem?_eq_getElem hlt, h2⟩

theorem idOf_lt {k : Nat} (hk : k < m) : idOf m ids k = k := by simp [idOf, hk]
theorem idOf_ge {b j : Nat} (hj : idxN b ids m = some j) : idOf m ids j = b ∧ j < m + ids.length := by
  obtain ⟨h1, h2⟩ := idxN_some hj
  have := lt_of_get h2
  exact ⟨by simp [idOf, h2]; omega, by omega⟩

include h in
/-- A value, seen from what is left. -/
theorem cut_rel {x y : AV} {v : Value} (hr : RelA s x v) : fin m ids s.σ x = some y → RelA (cutSn s m ids σ) y v := by
  have hC : ∀ r o, s.g.C r o → (cutSn s m ids σ).g.C r o := fun r o h => .inl h
  induction hr generalizing y with
  | p c v hp => intro hf; simp [fin] at hf; subst hf; exact .p _ _ (hp.weaken hC)
  | data cs vs h1 h2 => intro hf; simp [fin] at hf; subst hf; exact .data _ _ h1 fun i x v hx hv => (h2 i x v hx hv).weaken hC
  | agg cs vs h1 h0 h2 ih =>
    intro hf
    simp only [fin] at hf
    split at hf
    · rename_i l hl
      obtain ⟨k1, k2⟩ := finL_some hl
      have hrel : ∀ (i : Nat) y v, l[i]? = some y → vs[i]? = some v → RelA (cutSn s m ids σ) y v := by
        intro i y v hy hv
        have hlt := lt_of_get hy
        have hx : cs[i]? = some (cs[i]'(by omega)) := List.getElem?_eq_getElem _
        exact ih i _ v hx hv (k2 i _ y hx hy)
      split at hf
      · rename_i q hq
        injection hf with hf; subst hf
        have := unp_some hq; subst this
        refine .data _ _ (by simpa [k1] using h1) fun i c v hc hv => ?_
        have := hrel i (.p c) v (by simp [hc]) hv
        cases this with | p _ _ h => exact h
      · injection hf with hf; subst hf
        exact .agg _ _ (by omega) h0 hrel
    · cases hf
  | tup cs vs h1 h2 ih =>
    intro hf
    simp only [fin] at hf
    split at hf
    · rename_i l hl
      injection hf with hf; subst hf
      obtain ⟨k1, k2⟩ := finL_some hl
      refine .tup _ _ (by omega) fun i y v hy hv => ?_
      have hlt := lt_of_get hy
      have hx : cs[i]? = some (cs[i]'(by omega)) := List.getElem?_eq_getElem _
      exact ih i _ v hx hv (k2 i _ y hx hy)
    · cases hf
  | ptr b off r o hm hb =>
    intro hf
    obtain ⟨cs, hb⟩ := hb
    have go : ∀ k, idOf m ids k = b → k < m + ids.length → RelA (cutSn s m ids σ) (.ptr k off) (.pointer (some ⟨r, o + off, none⟩)) := by
      intro k hid hk
      obtain ⟨x, hx, hfx⟩ := cut_at h hid hk hb
      simp only [finB] at hfx
      split at hfx
      · injection hfx with hfx; subst hfx
        exact .ptr k off r o (by rw [cut_μ k hk, hid]; exact hm) ⟨_, hx⟩
      · cases hfx
    simp only [fin] at hf
    split at hf
    · rename_i hlt
      injection hf with hf; subst hf
      exact go b (idOf_lt hlt) (by omega)
    · obtain ⟨k, hk, rfl⟩ := Option.map_eq_some_iff.1 hf
      obtain ⟨h1, h2⟩ := idOf_ge hk
      exact go k h1 h2
  | cp cs off r o vals p1 p2 =>
    intro hf; simp [fin] at hf; subst hf
    exact .cp cs off r o vals (fun j x hx => ⟨hC _ _ (p1 j x hx).1, (p1 j x hx).2⟩) fun j x hx => (p2 j x hx).weaken hC
  | slr b i n v wm esz rows h0 hb hle hv =>
    intro hf
    have go : ∀ k, idOf m ids k = b → k < m + ids.length → RelA (cutSn s m ids σ) (.slr k i n) v := by
      intro k hid hk
      obtain ⟨x, hx, hfx⟩ := cut_at h hid hk hb
      simp only [finB] at hfx
      injection hfx with hfx; subst hfx
      refine .slr k i n v wm esz rows h0 hx hle fun e => ?_
      have hμ : (cutSn s m ids σ).g.μ k = s.g.μ b := by rw [cut_μ k hk, hid]
      rcases hv e with ⟨m', q1, q2, q3⟩ | ⟨r, cap, c, e1, fz, m', q⟩
      · exact .inl ⟨by rw [hμ]; exact m', q1, q2, q3⟩
      · exact .inr ⟨r, cap, c, e1, fz, by rw [hμ]; exact m', q⟩
    simp only [fin] at hf
    split at hf
    · rename_i hlt
      injection hf with hf; subst hf
      exact go b (idOf_lt hlt) (by omega)
    · rename_i hge
      split at hf
      · rename_i k hk
        injection hf with hf; subst hf
        obtain ⟨h1, h2⟩ := idOf_ge hk
        exact go k h1 h2
      · rename_i hnone
        rw [hb] at hf
        simp only at hf
        split at hf
        · rename_i e
          injection hf with hf; subst hf
          obtain ⟨a, cap, k1, k2, k3, k4⟩ := SlRel.of_slr h.inv (.slr b i n v wm esz rows h0 hb hle hv) hb e
          refine .p _ _ (sl_of_const (s := cutSn s m ids σ) k1 k2 k3 (k4.imp id ?_))
          rintro ⟨r, o, rfl, hx⟩
          refine ⟨r, o, rfl, fun k j row x hk hj => ⟨.inr ⟨b, wm, esz, rows, by omega, idxN_none hnone, hb, ?_⟩, ?_⟩⟩
          · rcases hv e with ⟨m', q1, q2, q3⟩ | ⟨r', cap', c, e1, fz, m', q1, _⟩
            · rw [k1] at q3; simp at q3
            · rw [k1] at q1; injection q1 with v1 v2 v3; injection v1 with v1; injection v1 with v1 v4; subst v1 v4
              refine ⟨m', ?_⟩
              have hk' := lt_of_get hk
              have hj' := lt_of_get hj
              rw [k3 row (mem_of_get hk)] at hj'
              rw [List.length_drop] at hk'
              have := idx_lt (a := i + k) (b := j) (n := rows.length) (e := esz) (by omega) hj'
              rw [Nat.add_mul] at this
              exact this
          · obtain ⟨u, hu, hr⟩ := hx k j row x hk hj
            exact ⟨u, hu, hr.weaken hC⟩
        · cases hf
  | ep b ext i off v wm esz rows h0 hb hle hv =>
    intro hf
    have go : ∀ k, idOf m ids k = b → k < m + ids.length → RelA (cutSn s m ids σ) (.ep k ext i off) v := by
      intro k hid hk
      obtain ⟨x, hx, hfx⟩ := cut_at h hid hk hb
      simp only [finB] at hfx
      injection hfx with hfx; subst hfx
      refine .ep k ext i off v wm esz rows h0 hx hle fun e1 e2 => ?_
      obtain ⟨r, m', q⟩ := hv e1 e2
      exact ⟨r, by rw [cut_μ k hk, hid]; exact m', q⟩
    simp only [fin] at hf
    split at hf
    · rename_i hlt
      injection hf with hf; subst hf
      exact go b (idOf_lt hlt) (by omega)
    · obtain ⟨k, hk, rfl⟩ := Option.map_eq_some_iff.1 hf
      obtain ⟨h1, h2⟩ := idOf_ge hk
      exact go k h1 h2
  | fn f first caps fs cs h1 h2 _ _ ih1 ih2 =>
    intro hf
    simp only [fin] at hf
    split at hf
    · rename_i a c ha hc
      injection hf with hf; subst hf
      obtain ⟨k1, k2⟩ := finL_some ha
      obtain ⟨k3, k4⟩ := finL_some hc
      refine .fn f a c fs cs (by omega) (by omega) (fun i y v hy hv => ?_) (fun i y v hy hv => ?_)
      · have hlt := lt_of_get hy
        have hx : first[i]? = some (first[i]'(by omega)) := List.getElem?_eq_getElem _
        exact ih1 i _ v hx hv (k2 i _ y hx hy)
      · have hlt := lt_of_get hy
        have hx : caps[i]? = some (caps[i]'(by omega)) := List.getElem?_eq_getElem _
        exact ih2 i _ v hx hv (k4 i _ y hx hy)
    · cases hf
  | unk x => intro hf; simp [fin] at hf; subst hf; exact .unk x

include h in
theorem cut_wr (k r o : Nat) (hw : Wr1 (cutSn s m ids σ) k r o) : k < m + ids.length ∧ Wr1 s (idOf m ids k) r o := by
  unfold Wr1 at hw
  have hσ : (cutSn s m ids σ).σ = σ := rfl
  rw [hσ] at hw
  cases hk : σ[k]? with
  | none => rw [hk] at hw; exact hw.elim
  | some x =>
    obtain ⟨hlt, y, hy, hf⟩ := cut_blk h hk
    refine ⟨hlt, ?_⟩
    rw [hk] at hw
    rw [cut_μ k hlt] at hw
    unfold Wr1
    rw [hy]
    cases y with
    | dead => simp [finB] at hf; subst hf; exact hw
    | box cs =>
      simp only [finB] at hf
      split at hf
      · rename_i l hl
        injection hf with hf; subst hf
        have := (finL_some hl).1
        simp only at hw ⊢
        rw [this]; exact hw
      · cases hf
    | arr w esz rows => simp [finB] at hf; subst hf; exact hw

include h in
theorem cut_inv : Inv (cutSn s m ids σ) := by
  have hi := h.inv
  have inj : ∀ k1 k2, k1 < m + ids.length → k2 < m + ids.length → idOf m ids k1 = idOf m ids k2 → k1 = k2 := by
    intro k1 k2 h1 h2 he
    simp only [idOf] at he
    split at he <;> split at he
    · exact he
    · rename_i a b
      have : k2 - m < ids.length := by omega
      have := h.ge ids[k2 - m] (by simp)
      simp [show k2 - m < ids.length by omega] at he
      omega
    · rename_i a b
      have := h.ge (ids[k1 - m]'(by omega)) (by simp)
      simp [show k1 - m < ids.length by omega] at he
      omega
    · have e1 : k1 - m < ids.length := by omega
      have e2 : k2 - m < ids.length := by omega
      simp [e1, e2] at he
      have := nodup_inj h.nodup (List.getElem?_eq_getElem e1) (by rw [he]; exact List.getElem?_eq_getElem e2)
      omega
  refine inv_sel hi rfl ?_ ?_ (idOf m ids) (fun k1 k2 h1 h2 he => inj k1 k2 (by rw [← h.len]; exact h1) (by rw [← h.len]; exact h2) he) (fun k r o hw => (cut_wr h k r o hw).2) ?_
  · intro k cs hk
    obtain ⟨hlt, y, hy, hf⟩ := cut_blk h hk
    cases y with
    | dead => simp [finB] at hf
    | arr => simp [finB] at hf
    | box cs0 =>
      simp only [finB] at hf
      split at hf
      · rename_i l hl
        injection hf with hf; injection hf with hf; subst hf
        obtain ⟨k1, k2⟩ := finL_some hl
        obtain ⟨r, o, c, e, fz, hm, hh, hle, hx, hfr⟩ := hi.box _ _ hy
        refine ⟨r, o, c, e, fz, by rw [cut_μ k hlt]; exact hm, hh, by omega, fun i x hix => ?_, by rw [← k1]; exact hfr⟩
        have hi' := lt_of_get hix
        have hx0 : cs0[i]? = some (cs0[i]'(by omega)) := List.getElem?_eq_getElem _
        obtain ⟨v, hv, hr, h1⟩ := hx i _ hx0
        exact ⟨v, hv, cut_rel h hr (k2 i _ x hx0 hix), h1⟩
      · cases hf
  · intro k wm esz rows hk
    obtain ⟨hlt, y, hy, hf⟩ := cut_blk h hk
    cases y with
    | dead => simp [finB] at hf
    | box cs0 => simp only [finB] at hf; split at hf <;> cases hf
    | arr w e rs =>
      simp [finB] at hf
      obtain ⟨rfl, rfl, rfl⟩ := hf
      rcases hi.arr _ _ _ _ hy with ⟨hm, hr⟩ | ⟨r, c, e, fz, hm, hh, hrow, hl, hx, hfr⟩
      · exact .inl ⟨by rw [cut_μ k hlt]; exact hm, hr⟩
      · refine .inr ⟨r, c, e, fz, by rw [cut_μ k hlt]; exact hm, hh, hrow, hl, fun i j row x h1 h2 => ?_, hfr⟩
        obtain ⟨⟨v, hv, hr⟩, hc⟩ := hx i j row x h1 h2
        exact ⟨⟨v, hv, hr.weaken fun r o h => .inl h⟩, fun e => .inl (hc e)⟩
  · intro r o hc
    rcases hc with hc | ⟨b, wm, esz, rows, hb1, hb2, hb3, hb4, hb5⟩
    · exact ⟨(hi.const r o hc).1, fun k hw => (hi.const r o hc).2 _ (cut_wr h k r o hw).2⟩
    · rcases hi.arr _ _ _ _ hb3 with ⟨hm, _⟩ | ⟨r', c, e, fz, hm, hh, hrow, hl, hx, _⟩
      · rw [hb4] at hm; cases hm
      · rw [hb4] at hm; injection hm with hm; injection hm with hm _; subst hm
        refine ⟨lt_of_cells hh, fun k hw => ?_⟩
        obtain ⟨hlt, hw⟩ := cut_wr h k r o hw
        have hneq : idOf m ids k ≠ b := by
          intro e
          simp only [idOf] at e
          split at e
          · omega
          · have : k - m < ids.length := by omega
            simp [this] at e
            exact hb2 (by rw [← e]; simp)
        cases wm with
        | true =>
          refine hneq (hi.apart _ _ _ _ hw ?_)
          unfold Wr1; rw [hb3]; exact ⟨0, hb4⟩
        | false =>
          have hpos : 0 < esz := by
            rcases Nat.eq_zero_or_pos esz with h0 | h0
            · subst h0; simp at hb5
            · exact h0
          have hdiv : o / esz < rows.length := Nat.div_lt_of_lt_mul (by rw [Nat.mul_comm]; exact hb5)
          have hrow1 : rows[o / esz]? = some (rows[o / esz]'hdiv) := List.getElem?_eq_getElem _
          have hlen := hrow _ (mem_of_get hrow1)
          have hmod : o % esz < (rows[o / esz]'hdiv).length := by rw [hlen]; exact Nat.mod_lt _ hpos
          have hcc := (hx _ _ _ _ hrow1 (List.getElem?_eq_getElem hmod)).2 rfl
          have : o / esz * esz + o % esz = o := by rw [Nat.mul_comm]; exact Nat.div_add_mod o esz
          rw [this] at hcc
          exact (hi.const r o hcc).2 _ hw

include h in
theorem cut_trans {E : Sn} (t : Trans E s) (hE : E.σ.length ≤ m) : Trans E (cutSn s m ids σ) := by
  have hi := h.inv
  refine ⟨t.keep, fun r o hc => .inl (t.cmono r o hc), fun r o hc => ?_, fun r o ⟨k, hw⟩ => t.wnew r o ⟨_, (cut_wr h k r o hw).2⟩, ?_, fun b cs hb => ?_, fun b wm esz rows hb => ?_⟩
  · rcases hc with hc | ⟨b, wm, esz, rows, hb1, hb2, hb3, hb4, hb5⟩
    · exact t.cnew r o hc
    · cases wm with
      | true =>
        have := t.wnew r o ⟨b, by unfold Wr1; rw [hb3]; exact ⟨0, hb4⟩⟩
        exact .inr this
      | false =>
        rcases hi.arr _ _ _ _ hb3 with ⟨hm, _⟩ | ⟨r', c, e, fz, hm, hh, hrow, hl, hx, _⟩
        · rw [hb4] at hm; cases hm
        · rw [hb4] at hm; injection hm with hm; injection hm with hm _; subst hm
          have hpos : 0 < esz := by
            rcases Nat.eq_zero_or_pos esz with h0 | h0
            · subst h0; simp at hb5
            · exact h0
          have hdiv : o / esz < rows.length := Nat.div_lt_of_lt_mul (by rw [Nat.mul_comm]; exact hb5)
          have hrow1 : rows[o / esz]? = some (rows[o / esz]'hdiv) := List.getElem?_eq_getElem _
          have hlen := hrow _ (mem_of_get hrow1)
          have hmod : o % esz < (rows[o / esz]'hdiv).length := by rw [hlen]; exact Nat.mod_lt _ hpos
          have hcc := (hx _ _ _ _ hrow1 (List.getElem?_eq_getElem hmod)).2 rfl
          have : o / esz * esz + o % esz = o := by rw [Nat.mul_comm]; exact Nat.div_add_mod o esz
          rw [this] at hcc
          exact t.cnew r o hcc
  · show E.σ.length ≤ σ.length
    rw [h.len]; omega
  · have hblt : b < m := by have := lt_of_get hb; omega
    obtain ⟨⟨cs', h1, h2⟩, h3⟩ := t.box b cs hb
    obtain ⟨x, hx, hfx⟩ := cut_at h (idOf_lt hblt) (by omega) h1
    simp only [finB] at hfx
    split at hfx
    · rename_i l hl
      injection hfx with hfx; subst hfx
      exact ⟨⟨l, hx, by rw [← (finL_some hl).1]; exact h2⟩, by rw [cut_μ b (by omega), idOf_lt hblt]; exact h3⟩
    · cases hfx
  · have hblt : b < m := by have := lt_of_get hb; omega
    obtain ⟨wm', rows', h1, h2, h3, h4⟩ := t.arr b wm esz rows hb
    obtain ⟨x, hx, hfx⟩ := cut_at h (idOf_lt hblt) (by omega) h1
    simp [finB] at hfx; subst hfx
    exact ⟨wm', rows', hx, h2, h3, fun e => by rw [cut_μ b (by omega), idOf_lt hblt]; exact h4 e⟩

end
end Go.Am
