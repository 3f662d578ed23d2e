/-
  Parts of a proof: AmCut, AmCall, AmCall2, AmCall3, AmSnd1, AmSnd2, AmSnd3, AmEval, AmCps, AmTy.
-/
import Derived.Orders
import Derived.LoopN
import Derived.Scope
import Derived.Test.YteiakclfpfmigaaM3
set_option linter.unusedSimpArgs false
set_option linter.unusedVariables false

section
namespace Go.Am

theorem RelP.weaken {w : World} {C C' : Nat → Nat → Prop} (h : ∀ r o, C r o → C' r o) {x v} (hr : RelP w C x v) : RelP w C' x v := by
  induction hr with
  | b x => exact .b x
  | i k n => exact .i k n
  | s l => exact .s l
  | np => exact .np
  | nf => exact .nf
  | sl0 esz a cap => exact .sl0 esz a cap
  | sl esz rows r o cap vals h1 h2 h3 _ ih => exact .sl esz rows r o cap vals h1 h2 (fun i j row x hr hx => ⟨h _ _ (h3 i j row x hr hx).1, (h3 i j row x hr hx).2⟩) ih

/-- A store whose blocks are some of another one's. -/
theorem inv_sel {s c : Sn} (hi : Inv s) (hw : c.w = s.w) (hbox : ∀ k cs, c.σ[k]? = some (.box cs) → BoxOk c k cs) (harr : ∀ k wm esz rows, c.σ[k]? = some (.arr wm esz rows) → ArrOk c k wm esz rows)
    (id : Nat → Nat) (inj : ∀ k1 k2, k1 < c.σ.length → k2 < c.σ.length → id k1 = id k2 → k1 = k2) (wr : ∀ k r o, Wr1 c k r o → Wr1 s (id k) r o)
    (hC : ∀ r o, c.g.C r o → r < s.w.heap.size ∧ ∀ k, ¬ Wr1 c k r o) : Inv c := by
  have hlt : ∀ k r o, Wr1 c k r o → k < c.σ.length := by
    intro k r o h
    unfold Wr1 at h
    cases hk : c.σ[k]? with
    | none => rw [hk] at h; exact h.elim
    | some b => exact lt_of_get hk
  exact ⟨hbox, harr, fun k1 k2 r o h1 h2 => inj k1 k2 (hlt _ _ _ h1) (hlt _ _ _ h2) (hi.apart _ _ _ _ (wr _ _ _ h1) (wr _ _ _ h2)), fun r o h => by rw [hw]; exact hC r o h⟩

theorem finL_some {m ids sto} : ∀ {xs ys : List AV}, fin.finL m ids sto xs = some ys → xs.length = ys.length ∧ ∀ (i : Nat) x y, xs[i]? = some x → ys[i]? = some y → fin m ids sto x = some y
  | [], ys, h => by simp [fin.finL] at h; subst h; exact ⟨rfl, fun i x y h => by simp at h⟩
  | x :: xs, ys, h => by
    simp only [fin.finL] at h
    split at h
    · rename_i y l hy hl
      injection h with h; subst h
      obtain ⟨h1, h2⟩ := finL_some hl
      refine ⟨by simp [h1], fun i a b ha hb => ?_⟩
      cases i with
      | zero => simp at ha hb; subst ha hb; exact hy
      | succ i => exact h2 i a b (by simpa using ha) (by simpa using hb)
    · cases h

theorem finBs_some {m ids sto} : ∀ {xs ys : List Blk}, finBs m ids sto xs = some ys → xs.length = ys.length ∧ ∀ (i : Nat) x y, xs[i]? = some x → ys[i]? = some y → finB m ids sto x = some y
  | [], ys, h => by simp [finBs] at h; subst h; exact ⟨rfl, fun i x y h => by simp at h⟩
  | x :: xs, ys, h => by
    simp only [finBs] at h
    split at h
    · rename_i y l hy hl
      injection h with h; subst h
      obtain ⟨h1, h2⟩ := finBs_some hl
      refine ⟨by simp [h1], fun i a b ha hb => ?_⟩
      cases i with
      | zero => simp at ha hb; subst ha hb; exact hy
      | succ i => exact h2 i a b (by simpa using ha) (by simpa using hb)
    · cases h

theorem pickB_some {sto} : ∀ {ids : List Nat} {ys : List Blk}, pickB sto ids = some ys → ids.length = ys.length ∧ ∀ (i : Nat) b y, ids[i]? = some b → ys[i]? = some y → sto[b]? = some y
  | [], ys, h => by simp [pickB] at h; subst h; exact ⟨rfl, fun i x y h => by simp at h⟩
  | x :: xs, ys, h => by
    simp only [pickB] at h
    split at h
    · rename_i y l hy hl
      injection h with h; subst h
      obtain ⟨h1, h2⟩ := pickB_some hl
      refine ⟨by simp [h1], fun i a b ha hb => ?_⟩
      cases i with
      | zero => simp at ha hb; subst ha hb; exact hy
      | succ i => exact h2 i a b (by simpa using ha) (by simpa using hb)
    · cases h

theorem idxN_some {b : Nat} : ∀ {ids : List Nat} {k j : Nat}, idxN b ids k = some j → k ≤ j ∧ ids[j - k]? = some b
  | [], k, j, h => by simp [idxN] at h
  | x :: r, k, j, h => by
    simp only [idxN] at h
    split at h
    · rename_i hx; injection h with h; subst h; exact ⟨Nat.le_refl _, by simp [hx]⟩
    · obtain ⟨h1, h2⟩ := idxN_some h
      refine ⟨by omega, ?_⟩
      rw [show j - k = (j - (k + 1)) + 1 by omega]
      simpa using h2

theorem idxN_none {b : Nat} : ∀ {ids : List Nat} {k : Nat}, idxN b ids k = none → b ∉ ids
  | [], _, _ => by simp
  | x :: r, k, h => by
    simp only [idxN] at h
    split at h
    · cases h
    · rename_i hx
      simp only [List.mem_cons, not_or]
      exact ⟨fun e => hx e.symm, idxN_none h⟩

theorem nodupB_iff : ∀ {l : List Nat}, nodupB l = true → l.Nodup
  | [], _ => List.nodup_nil
  | x :: r, h => by
    simp only [nodupB, Bool.and_eq_true, Bool.not_eq_true'] at h
    refine List.nodup_cons.2 ⟨?_, nodupB_iff h.2⟩
    intro hm
    have : r.contains x = true := by simpa using hm
    rw [this] at h; cases h.1

theorem nodup_inj {α : Type} : ∀ {l : List α}, l.Nodup → ∀ {i j : Nat} {x : α}, l[i]? = some x → l[j]? = some x → i = j
  | [], _, i, j, x, h, _ => by simp at h
  | y :: l, h, i, j, x, h1, h2 => by
    obtain ⟨hn, hl⟩ := List.nodup_cons.1 h
    cases i with
    | zero =>
      cases j with
      | zero => rfl
      | succ j => simp at h1 h2; subst h1; exact absurd (mem_of_get h2) hn
    | succ i =>
      cases j with
      | zero => simp at h1 h2; subst h2; exact absurd (mem_of_get h1) hn
      | succ j => exact congrArg (· + 1) (nodup_inj hl (i := i) (j := j) (x := x) (by simpa using h1) (by simpa using h2))

def cutC (s : Sn) (m : Nat) (ids : List Nat) : Nat → Nat → Prop := fun r o =>
  s.g.C r o ∨ ∃ b wm esz rows, m ≤ b ∧ b ∉ ids ∧ s.σ[b]? = some (Blk.arr wm esz rows) ∧ s.g.μ b = some (r, 0) ∧ o < rows.length * esz

/-- The blocks below m, and the listed ones behind them. -/
def cutSn (s : Sn) (m : Nat) (ids : List Nat) (σ : List Blk) : Sn :=
  ⟨σ, ⟨fun k => if k < m then s.g.μ k else match ids[k - m]? with
    | some b => s.g.μ b
    | none => none, cutC s m ids⟩, s.w⟩

section
variable {s : Sn} {m : Nat} {ids : List Nat} {l q q' : List Blk}

def idOf (m : Nat) (ids : List Nat) (k : Nat) : Nat := if k < m then k else (ids[k - m]?).getD 0

structure CutOk (s : Sn) (m : Nat) (ids : List Nat) (σ : List Blk) : Prop where
  inv : Inv s
  le : m ≤ s.σ.length
  nodup : ids.Nodup
  ge : ∀ b ∈ ids, m ≤ b
  len : σ.length = m + ids.length
  blk : ∀ k x, σ[k]? = some x → ∃ y, s.σ[idOf m ids k]? = some y ∧ finB m ids s.σ y = some x

variable {σ : List Blk} (h : CutOk s m ids σ)

theorem cut_μ (k : Nat) (hk : k < m + ids.length) : (cutSn s m ids σ).g.μ k = s.g.μ (idOf m ids k) := by
  simp only [cutSn, idOf]
  split
  · rfl
  · have : k - m < ids.length := by omega
    simp [this]

include h in
theorem cut_blk {k : Nat} {x : Blk} (hk : σ[k]? = some x) : k < m + ids.length ∧ ∃ y, s.σ[idOf m ids k]? = some y ∧ finB m ids s.σ y = some x := by
  have := lt_of_get hk
  exact ⟨by rw [← h.len]; exact this, h.blk k x hk⟩

include h in
theorem cut_at {b k : Nat} {y : Blk} (hid : idOf m ids k = b) (hk : k < m + ids.length) (hb : s.σ[b]? = some y) : ∃ x, σ[k]? = some x ∧ finB m ids s.σ y = some x := by
  have hlt : k < σ.length := by rw [h.len]; exact hk
  obtain ⟨y', h1, h2⟩ := h.blk k σ[k] (List.getElem?_eq_getElem hlt)
  rw [hid, hb] at h1; injection h1 with h1; subst h1
  exact ⟨_, List.getElem?_eq_getElem hlt, h2⟩

theorem idOf_lt {k : Nat} (hk : k < m) : idOf m ids k = k := by simp [idOf, hk]
theorem idOf_ge {b j : Nat} (hj : idxN b ids m = some j) : idOf m ids j = b ∧ j < m + ids.length := by
  obtain ⟨h1, h2⟩ := idxN_some hj
  have := lt_of_get h2
  exact ⟨by simp [idOf, h2]; omega, by omega⟩

include h in
/-- A value, seen from what is left. -/
theorem cut_rel {x y : AV} {v : Value} (hr : RelA s x v) : fin m ids s.σ x = some y → RelA (cutSn s m ids σ) y v := by
  have hC : ∀ r o, s.g.C r o → (cutSn s m ids σ).g.C r o := fun r o h => .inl h
  induction hr generalizing y with
  | p c v hp => intro hf; simp [fin] at hf; subst hf; exact .p _ _ (hp.weaken hC)
  | data cs vs h1 h2 => intro hf; simp [fin] at hf; subst hf; exact .data _ _ h1 fun i x v hx hv => (h2 i x v hx hv).weaken hC
  | agg cs vs h1 h0 h2 ih =>
    intro hf
    simp only [fin] at hf
    split at hf
    · rename_i l hl
      obtain ⟨k1, k2⟩ := finL_some hl
      have hrel : ∀ (i : Nat) y v, l[i]? = some y → vs[i]? = some v → RelA (cutSn s m ids σ) y v := by
        intro i y v hy hv
        have hlt := lt_of_get hy
        have hx : cs[i]? = some (cs[i]'(by omega)) := List.getElem?_eq_getElem _
        exact ih i _ v hx hv (k2 i _ y hx hy)
      split at hf
      · rename_i q hq
        injection hf with hf; subst hf
        have := unp_some hq; subst this
        refine .data _ _ (by simpa [k1] using h1) fun i c v hc hv => ?_
        have := hrel i (.p c) v (by simp [hc]) hv
        cases this with | p _ _ h => exact h
      · injection hf with hf; subst hf
        exact .agg _ _ (by omega) h0 hrel
    · cases hf
  | tup cs vs h1 h2 ih =>
    intro hf
    simp only [fin] at hf
    split at hf
    · rename_i l hl
      injection hf with hf; subst hf
      obtain ⟨k1, k2⟩ := finL_some hl
      refine .tup _ _ (by omega) fun i y v hy hv => ?_
      have hlt := lt_of_get hy
      have hx : cs[i]? = some (cs[i]'(by omega)) := List.getElem?_eq_getElem _
      exact ih i _ v hx hv (k2 i _ y hx hy)
    · cases hf
  | ptr b off r o hm hb =>
    intro hf
    obtain ⟨cs, hb⟩ := hb
    have go : ∀ k, idOf m ids k = b → k < m + ids.length → RelA (cutSn s m ids σ) (.ptr k off) (.pointer (some ⟨r, o + off, none⟩)) := by
      intro k hid hk
      obtain ⟨x, hx, hfx⟩ := cut_at h hid hk hb
      simp only [finB] at hfx
      split at hfx
      · injection hfx with hfx; subst hfx
        exact .ptr k off r o (by rw [cut_μ k hk, hid]; exact hm) ⟨_, hx⟩
      · cases hfx
    simp only [fin] at hf
    split at hf
    · rename_i hlt
      injection hf with hf; subst hf
      exact go b (idOf_lt hlt) (by omega)
    · obtain ⟨k, hk, rfl⟩ := Option.map_eq_some_iff.1 hf
      obtain ⟨h1, h2⟩ := idOf_ge hk
      exact go k h1 h2
  | cp cs off r o vals p1 p2 =>
    intro hf; simp [fin] at hf; subst hf
    exact .cp cs off r o vals (fun j x hx => ⟨hC _ _ (p1 j x hx).1, (p1 j x hx).2⟩) fun j x hx => (p2 j x hx).weaken hC
  | slr b i n v wm esz rows h0 hb hle hv =>
    intro hf
    have go : ∀ k, idOf m ids k = b → k < m + ids.length → RelA (cutSn s m ids σ) (.slr k i n) v := by
      intro k hid hk
      obtain ⟨x, hx, hfx⟩ := cut_at h hid hk hb
      simp only [finB] at hfx
      injection hfx with hfx; subst hfx
      refine .slr k i n v wm esz rows h0 hx hle fun e => ?_
      have hμ : (cutSn s m ids σ).g.μ k = s.g.μ b := by rw [cut_μ k hk, hid]
      rcases hv e with ⟨m', q1, q2, q3⟩ | ⟨r, cap, c, e1, fz, m', q⟩
      · exact .inl ⟨by rw [hμ]; exact m', q1, q2, q3⟩
      · exact .inr ⟨r, cap, c, e1, fz, by rw [hμ]; exact m', q⟩
    simp only [fin] at hf
    split at hf
    · rename_i hlt
      injection hf with hf; subst hf
      exact go b (idOf_lt hlt) (by omega)
    · rename_i hge
      split at hf
      · rename_i k hk
        injection hf with hf; subst hf
        obtain ⟨h1, h2⟩ := idOf_ge hk
        exact go k h1 h2
      · rename_i hnone
        rw [hb] at hf
        simp only at hf
        split at hf
        · rename_i e
          injection hf with hf; subst hf
          obtain ⟨a, cap, k1, k2, k3, k4⟩ := SlRel.of_slr h.inv (.slr b i n v wm esz rows h0 hb hle hv) hb e
          refine .p _ _ (sl_of_const (s := cutSn s m ids σ) k1 k2 k3 (k4.imp id ?_))
          rintro ⟨r, o, rfl, hx⟩
          refine ⟨r, o, rfl, fun k j row x hk hj => ⟨.inr ⟨b, wm, esz, rows, by omega, idxN_none hnone, hb, ?_⟩, ?_⟩⟩
          · rcases hv e with ⟨m', q1, q2, q3⟩ | ⟨r', cap', c, e1, fz, m', q1, _⟩
            · rw [k1] at q3; simp at q3
            · rw [k1] at q1; injection q1 with v1 v2 v3; injection v1 with v1; injection v1 with v1 v4; subst v1 v4
              refine ⟨m', ?_⟩
              have hk' := lt_of_get hk
              have hj' := lt_of_get hj
              rw [k3 row (mem_of_get hk)] at hj'
              rw [List.length_drop] at hk'
              have := idx_lt (a := i + k) (b := j) (n := rows.length) (e := esz) (by omega) hj'
              rw [Nat.add_mul] at this
              exact this
          · obtain ⟨u, hu, hr⟩ := hx k j row x hk hj
            exact ⟨u, hu, hr.weaken hC⟩
        · cases hf
  | ep b ext i off v wm esz rows h0 hb hle hv =>
    intro hf
    have go : ∀ k, idOf m ids k = b → k < m + ids.length → RelA (cutSn s m ids σ) (.ep k ext i off) v := by
      intro k hid hk
      obtain ⟨x, hx, hfx⟩ := cut_at h hid hk hb
      simp only [finB] at hfx
      injection hfx with hfx; subst hfx
      refine .ep k ext i off v wm esz rows h0 hx hle fun e1 e2 => ?_
      obtain ⟨r, m', q⟩ := hv e1 e2
      exact ⟨r, by rw [cut_μ k hk, hid]; exact m', q⟩
    simp only [fin] at hf
    split at hf
    · rename_i hlt
      injection hf with hf; subst hf
      exact go b (idOf_lt hlt) (by omega)
    · obtain ⟨k, hk, rfl⟩ := Option.map_eq_some_iff.1 hf
      obtain ⟨h1, h2⟩ := idOf_ge hk
      exact go k h1 h2
  | fn f first caps fs cs h1 h2 _ _ ih1 ih2 =>
    intro hf
    simp only [fin] at hf
    split at hf
    · rename_i a c ha hc
      injection hf with hf; subst hf
      obtain ⟨k1, k2⟩ := finL_some ha
      obtain ⟨k3, k4⟩ := finL_some hc
      refine .fn f a c fs cs (by omega) (by omega) (fun i y v hy hv => ?_) (fun i y v hy hv => ?_)
      · have hlt := lt_of_get hy
        have hx : first[i]? = some (first[i]'(by omega)) := List.getElem?_eq_getElem _
        exact ih1 i _ v hx hv (k2 i _ y hx hy)
      · have hlt := lt_of_get hy
        have hx : caps[i]? = some (caps[i]'(by omega)) := List.getElem?_eq_getElem _
        exact ih2 i _ v hx hv (k4 i _ y hx hy)
    · cases hf
  | unk x => intro hf; simp [fin] at hf; subst hf; exact .unk x

include h in
theorem cut_wr (k r o : Nat) (hw : Wr1 (cutSn s m ids σ) k r o) : k < m + ids.length ∧ Wr1 s (idOf m ids k) r o := by
  unfold Wr1 at hw
  have hσ : (cutSn s m ids σ).σ = σ := rfl
  rw [hσ] at hw
  cases hk : σ[k]? with
  | none => rw [hk] at hw; exact hw.elim
  | some x =>
    obtain ⟨hlt, y, hy, hf⟩ := cut_blk h hk
    refine ⟨hlt, ?_⟩
    rw [hk] at hw
    rw [cut_μ k hlt] at hw
    unfold Wr1
    rw [hy]
    cases y with
    | dead => simp [finB] at hf; subst hf; exact hw
    | box cs =>
      simp only [finB] at hf
      split at hf
      · rename_i l hl
        injection hf with hf; subst hf
        have := (finL_some hl).1
        simp only at hw ⊢
        rw [this]; exact hw
      · cases hf
    | arr w esz rows => simp [finB] at hf; subst hf; exact hw

include h in
theorem cut_inv : Inv (cutSn s m ids σ) := by
  have hi := h.inv
  have inj : ∀ k1 k2, k1 < m + ids.length → k2 < m + ids.length → idOf m ids k1 = idOf m ids k2 → k1 = k2 := by
    intro k1 k2 h1 h2 he
    simp only [idOf] at he
    split at he <;> split at he
    · exact he
    · rename_i a b
      have : k2 - m < ids.length := by omega
      have := h.ge ids[k2 - m] (by simp)
      simp [show k2 - m < ids.length by omega] at he
      omega
    · rename_i a b
      have := h.ge (ids[k1 - m]'(by omega)) (by simp)
      simp [show k1 - m < ids.length by omega] at he
      omega
    · have e1 : k1 - m < ids.length := by omega
      have e2 : k2 - m < ids.length := by omega
      simp [e1, e2] at he
      have := nodup_inj h.nodup (List.getElem?_eq_getElem e1) (by rw [he]; exact List.getElem?_eq_getElem e2)
      omega
  refine inv_sel hi rfl ?_ ?_ (idOf m ids) (fun k1 k2 h1 h2 he => inj k1 k2 (by rw [← h.len]; exact h1) (by rw [← h.len]; exact h2) he) (fun k r o hw => (cut_wr h k r o hw).2) ?_
  · intro k cs hk
    obtain ⟨hlt, y, hy, hf⟩ := cut_blk h hk
    cases y with
    | dead => simp [finB] at hf
    | arr => simp [finB] at hf
    | box cs0 =>
      simp only [finB] at hf
      split at hf
      · rename_i l hl
        injection hf with hf; injection hf with hf; subst hf
        obtain ⟨k1, k2⟩ := finL_some hl
        obtain ⟨r, o, c, e, fz, hm, hh, hle, hx, hfr⟩ := hi.box _ _ hy
        refine ⟨r, o, c, e, fz, by rw [cut_μ k hlt]; exact hm, hh, by omega, fun i x hix => ?_, by rw [← k1]; exact hfr⟩
        have hi' := lt_of_get hix
        have hx0 : cs0[i]? = some (cs0[i]'(by omega)) := List.getElem?_eq_getElem _
        obtain ⟨v, hv, hr, h1⟩ := hx i _ hx0
        exact ⟨v, hv, cut_rel h hr (k2 i _ x hx0 hix), h1⟩
      · cases hf
  · intro k wm esz rows hk
    obtain ⟨hlt, y, hy, hf⟩ := cut_blk h hk
    cases y with
    | dead => simp [finB] at hf
    | box cs0 => simp only [finB] at hf; split at hf <;> cases hf
    | arr w e rs =>
      simp [finB] at hf
      obtain ⟨rfl, rfl, rfl⟩ := hf
      rcases hi.arr _ _ _ _ hy with ⟨hm, hr⟩ | ⟨r, c, e, fz, hm, hh, hrow, hl, hx, hfr⟩
      · exact .inl ⟨by rw [cut_μ k hlt]; exact hm, hr⟩
      · refine .inr ⟨r, c, e, fz, by rw [cut_μ k hlt]; exact hm, hh, hrow, hl, fun i j row x h1 h2 => ?_, hfr⟩
        obtain ⟨⟨v, hv, hr⟩, hc⟩ := hx i j row x h1 h2
        exact ⟨⟨v, hv, hr.weaken fun r o h => .inl h⟩, fun e => .inl (hc e)⟩
  · intro r o hc
    rcases hc with hc | ⟨b, wm, esz, rows, hb1, hb2, hb3, hb4, hb5⟩
    · exact ⟨(hi.const r o hc).1, fun k hw => (hi.const r o hc).2 _ (cut_wr h k r o hw).2⟩
    · rcases hi.arr _ _ _ _ hb3 with ⟨hm, _⟩ | ⟨r', c, e, fz, hm, hh, hrow, hl, hx, _⟩
      · rw [hb4] at hm; cases hm
      · rw [hb4] at hm; injection hm with hm; injection hm with hm _; subst hm
        refine ⟨lt_of_cells hh, fun k hw => ?_⟩
        obtain ⟨hlt, hw⟩ := cut_wr h k r o hw
        have hneq : idOf m ids k ≠ b := by
          intro e
          simp only [idOf] at e
          split at e
          · omega
          · have : k - m < ids.length := by omega
            simp [this] at e
            exact hb2 (by rw [← e]; simp)
        cases wm with
        | true =>
          refine hneq (hi.apart _ _ _ _ hw ?_)
          unfold Wr1; rw [hb3]; exact ⟨0, hb4⟩
        | false =>
          have hpos : 0 < esz := by
            rcases Nat.eq_zero_or_pos esz with h0 | h0
            · subst h0; simp at hb5
            · exact h0
          have hdiv : o / esz < rows.length := Nat.div_lt_of_lt_mul (by rw [Nat.mul_comm]; exact hb5)
          have hrow1 : rows[o / esz]? = some (rows[o / esz]'hdiv) := List.getElem?_eq_getElem _
          have hlen := hrow _ (mem_of_get hrow1)
          have hmod : o % esz < (rows[o / esz]'hdiv).length := by rw [hlen]; exact Nat.mod_lt _ hpos
          have hcc := (hx _ _ _ _ hrow1 (List.getElem?_eq_getElem hmod)).2 rfl
          have : o / esz * esz + o % esz = o := by rw [Nat.mul_comm]; exact Nat.div_add_mod o esz
          rw [this] at hcc
          exact (hi.const r o hcc).2 _ hw

include h in
theorem cut_trans {E : Sn} (t : Trans E s) (hE : E.σ.length ≤ m) : Trans E (cutSn s m ids σ) := by
  have hi := h.inv
  refine ⟨t.keep, fun r o hc => .inl (t.cmono r o hc), fun r o hc => ?_, fun r o ⟨k, hw⟩ => t.wnew r o ⟨_, (cut_wr h k r o hw).2⟩, ?_, fun b cs hb => ?_, fun b wm esz rows hb => ?_⟩
  · rcases hc with hc | ⟨b, wm, esz, rows, hb1, hb2, hb3, hb4, hb5⟩
    · exact t.cnew r o hc
    · cases wm with
      | true =>
        have := t.wnew r o ⟨b, by unfold Wr1; rw [hb3]; exact ⟨0, hb4⟩⟩
        exact .inr this
      | false =>
        rcases hi.arr _ _ _ _ hb3 with ⟨hm, _⟩ | ⟨r', c, e, fz, hm, hh, hrow, hl, hx, _⟩
        · rw [hb4] at hm; cases hm
        · rw [hb4] at hm; injection hm with hm; injection hm with hm _; subst hm
          have hpos : 0 < esz := by
            rcases Nat.eq_zero_or_pos esz with h0 | h0
            · subst h0; simp at hb5
            · exact h0
          have hdiv : o / esz < rows.length := Nat.div_lt_of_lt_mul (by rw [Nat.mul_comm]; exact hb5)
          have hrow1 : rows[o / esz]? = some (rows[o / esz]'hdiv) := List.getElem?_eq_getElem _
          have hlen := hrow _ (mem_of_get hrow1)
          have hmod : o % esz < (rows[o / esz]'hdiv).length := by rw [hlen]; exact Nat.mod_lt _ hpos
          have hcc := (hx _ _ _ _ hrow1 (List.getElem?_eq_getElem hmod)).2 rfl
          have : o / esz * esz + o % esz = o := by rw [Nat.mul_comm]; exact Nat.div_add_mod o esz
          rw [this] at hcc
          exact t.cnew r o hcc
  · show E.σ.length ≤ σ.length
    rw [h.len]; omega
  · have hblt : b < m := by have := lt_of_get hb; omega
    obtain ⟨⟨cs', h1, h2⟩, h3⟩ := t.box b cs hb
    obtain ⟨x, hx, hfx⟩ := cut_at h (idOf_lt hblt) (by omega) h1
    simp only [finB] at hfx
    split at hfx
    · rename_i l hl
      injection hfx with hfx; subst hfx
      exact ⟨⟨l, hx, by rw [← (finL_some hl).1]; exact h2⟩, by rw [cut_μ b (by omega), idOf_lt hblt]; exact h3⟩
    · cases hfx
  · have hblt : b < m := by have := lt_of_get hb; omega
    obtain ⟨wm', rows', h1, h2, h3, h4⟩ := t.arr b wm esz rows hb
    obtain ⟨x, hx, hfx⟩ := cut_at h (idOf_lt hblt) (by omega) h1
    simp [finB] at hfx; subst hfx
    exact ⟨wm', rows', hx, h2, h3, fun e => by rw [cut_μ b (by omega), idOf_lt hblt]; exact h4 e⟩

end
end Go.Am
end

section
namespace Go.Am

/-- What a call of f owes. -/
def CallOk (P : Program) (f : FuncId) (args : List AV) (blks : List Blk) (r : Res) : Prop :=
  (∃ fn, P.funcs[f]? = some fn ∧ fn.body.isSome = true ∧ (fn.name == "runtime.NumGoroutine") = false) ∧
  ∀ (g : Gh) (w : World) (vals : Array Value), Inv ⟨blks, g, w⟩ → args.length = vals.size → (∀ (i : Nat) x v, args[i]? = some x → vals[i]? = some v → RelA ⟨blks, g, w⟩ x v) →
    Calls P f vals w fun e w' => ∃ v g', e = .returned v ∧ Inv ⟨r.2, g', w'⟩ ∧ Trans ⟨blks, g, w⟩ ⟨r.2, g', w'⟩ ∧ RelA ⟨r.2, g', w'⟩ r.1 v

def SoundF (P : Program) (F : Orc) : Prop := ∀ f args blks r, F f args blks = some r → CallOk P f args blks r

theorem entAt_some {e : Ent} : ∀ {es : List Ent} {k j : Nat}, entAt e es k = some j → k ≤ j ∧ es[j - k]? = some e
  | [], k, j, h => by simp [entAt] at h
  | x :: r, k, j, h => by
    simp only [entAt] at h
    split at h
    · rename_i hx; injection h with h; subst h; exact ⟨Nat.le_refl _, by simp [hx]⟩
    · obtain ⟨h1, h2⟩ := entAt_some h
      refine ⟨by omega, ?_⟩
      rw [show j - k = (j - (k + 1)) + 1 by omega]
      simpa using h2

theorem renL_some {ρ : Ent → Option Nat} : ∀ {xs ys : List AV}, ren.renL ρ xs = some ys → xs.length = ys.length ∧ ∀ (i : Nat) x y, xs[i]? = some x → ys[i]? = some y → ren ρ x = some y
  | [], ys, h => by simp [ren.renL] at h; subst h; exact ⟨rfl, fun i x y h => by simp at h⟩
  | x :: xs, ys, h => by
    simp only [ren.renL] at h
    split at h
    · rename_i y l hy hl
      injection h with h; subst h
      obtain ⟨h1, h2⟩ := renL_some hl
      refine ⟨by simp [h1], fun i a b ha hb => ?_⟩
      cases i with
      | zero => simp at ha hb; subst ha hb; exact hy
      | succ i => exact h2 i a b (by simpa using ha) (by simpa using hb)
    · cases h

theorem bkL_some {es : List Ent} {new : Nat} : ∀ {xs ys : List AV}, bk.bkL es new xs = some ys → xs.length = ys.length ∧ ∀ (i : Nat) x y, xs[i]? = some x → ys[i]? = some y → bk es new x = some y
  | [], ys, h => by simp [bk.bkL] at h; subst h; exact ⟨rfl, fun i x y h => by simp at h⟩
  | x :: xs, ys, h => by
    simp only [bk.bkL] at h
    split at h
    · rename_i y l hy hl
      injection h with h; subst h
      obtain ⟨h1, h2⟩ := bkL_some hl
      refine ⟨by simp [h1], fun i a b ha hb => ?_⟩
      cases i with
      | zero => simp at ha hb; subst ha hb; exact hy
      | succ i => exact h2 i a b (by simpa using ha) (by simpa using hb)
    · cases h

/-- The callee's block of an entry. -/
def InOk (s : Sn) (ρ : Ent → Option Nat) (e : Ent) (x : Blk) : Prop :=
  match e with
  | .whole b => (∃ cs l, s.σ[b]? = some (.box cs) ∧ ren.renL ρ cs = some l ∧ x = .box l) ∨ (∃ w esz rows, s.σ[b]? = some (.arr w esz rows) ∧ x = .arr w esz rows)
  | .elem b ext i => ∃ esz rows row, s.σ[b]? = some (.arr true esz rows) ∧ ext = rows.length ∧ rows[i]? = some row ∧ x = .box (row.map .p)

section
variable {s : Sn} {env : List (Nat × AV)}

theorem getB_rel {σ0 : List Blk} {ws : List (Nat × Blk)} {b : Nat} {x : Blk} (h : (getB ws b).run ⟨env, σ0⟩ = some x) : (upd ws σ0)[b]? = some x := by
  simp only [getB, RM.run] at h
  split at h
  · rename_i y hy
    have hlt := lt_of_get hy
    rw [upd_get _ _ _ hlt]
    split at h
    · rename_i z hz; simp only [RM.run] at h; injection h with h; subst h; simp [hz]
    · rename_i hz; simp only [RM.run] at h; injection h with h; subst h; simp [hz]; exact hy
  · cases h

theorem blkIn_rel {σ0 : List Blk} {ws : List (Nat × Blk)} (hσ : s.σ = upd ws σ0) {ρ : Ent → Option Nat} {e : Ent} {x : Blk} (h : (blkIn ws ρ e).run ⟨env, σ0⟩ = some x) : InOk s ρ e x := by
  cases e with
  | whole b =>
    simp only [blkIn] at h
    obtain ⟨y, h1, h⟩ := bind_some h
    have hb := getB_rel h1
    rw [← hσ] at hb
    cases y with
    | dead => cases h
    | box cs =>
      dsimp only at h
      split at h
      · rename_i l hl
        simp only [RM.run] at h; injection h with h; subst h
        exact .inl ⟨cs, l, hb, hl, rfl⟩
      · cases h
    | arr w esz rows =>
      simp only [RM.run] at h; injection h with h; subst h
      exact .inr ⟨w, esz, rows, hb, rfl⟩
  | elem b ext i =>
    simp only [blkIn] at h
    obtain ⟨y, h1, h⟩ := bind_some h
    have hb := getB_rel h1
    rw [← hσ] at hb
    cases y with
    | arr w esz rows =>
      cases w
      · cases h
      · dsimp only at h
        split at h
        · rename_i he
          split at h
          · rename_i row hrow
            simp only [RM.run] at h; injection h with h; subst h
            exact ⟨esz, rows, row, hb, he, hrow, rfl⟩
          · cases h
        · cases h
    | _ => cases h

theorem blksIn_rel {σ0 : List Blk} {ws : List (Nat × Blk)} (hσ : s.σ = upd ws σ0) {ρ : Ent → Option Nat} : ∀ {es : List Ent} {blks : List Blk}, (blksIn ws ρ es).run ⟨env, σ0⟩ = some blks →
    es.length = blks.length ∧ ∀ (k : Nat) e x, es[k]? = some e → blks[k]? = some x → InOk s ρ e x
  | [], blks, h => by simp only [blksIn, RM.run] at h; injection h with h; subst h; exact ⟨rfl, fun k e x h => by simp at h⟩
  | e :: es, blks, h => by
    simp only [blksIn] at h
    obtain ⟨x, h1, h⟩ := bind_some h
    obtain ⟨l, h2, h⟩ := bind_some h
    simp only [RM.run] at h; injection h with h; subst h
    obtain ⟨k1, k2⟩ := blksIn_rel hσ h2
    refine ⟨by simp [k1], fun k e' x' he hx => ?_⟩
    cases k with
    | zero => simp at he hx; subst he hx; exact blkIn_rel hσ h1
    | succ k => exact k2 k e' x' (by simpa using he) (by simpa using hx)

/-- The callee's state. -/
def inSn (s : Sn) (es : List Ent) (blks : List Blk) : Sn :=
  ⟨blks, ⟨fun k => match es[k]? with
    | some (.whole b) => s.g.μ b
    | some (.elem b _ i) => (match s.σ[b]? with
      | some (.arr _ esz _) => (match s.g.μ b with
        | some p => some (p.1, i * esz)
        | none => none)
      | _ => none)
    | none => none, s.g.C⟩, s.w⟩

structure CallIn (s : Sn) (es : List Ent) (blks : List Blk) : Prop where
  inv : Inv s
  nodup : (es.map Ent.id).Nodup
  len : es.length = blks.length
  blk : ∀ (k : Nat) e x, es[k]? = some e → blks[k]? = some x → InOk s (fun e => entAt e es 0) e x

variable {es : List Ent} {blks : List Blk} (h : CallIn s es blks)

include h in
theorem in_at {k : Nat} {e : Ent} (he : es[k]? = some e) : ∃ x, blks[k]? = some x ∧ InOk s (fun e => entAt e es 0) e x := by
  have hlt := lt_of_get he
  have : k < blks.length := by rw [← h.len]; exact hlt
  exact ⟨blks[k], List.getElem?_eq_getElem this, h.blk k e _ he (List.getElem?_eq_getElem this)⟩

theorem in_μ_whole {k b : Nat} (he : es[k]? = some (.whole b)) : (inSn s es blks).g.μ k = s.g.μ b := by simp [inSn, he]

theorem in_μ_elem {k b ext i esz : Nat} {wm rows r} (he : es[k]? = some (.elem b ext i)) (hb : s.σ[b]? = some (.arr wm esz rows)) (hm : s.g.μ b = some (r, 0)) : (inSn s es blks).g.μ k = some (r, i * esz) := by
  simp [inSn, he, hb, hm]

include h in
theorem in_rel {x y : AV} {v : Value} (hr : RelA s x v) : ren (fun e => entAt e es 0) x = some y → RelA (inSn s es blks) y v := by
  induction hr generalizing y with
  | p c v hp => intro hf; simp [ren] at hf; subst hf; exact .p _ _ hp
  | data cs vs h1 h2 => intro hf; simp [ren] at hf; subst hf; exact .data _ _ h1 h2
  | cp cs off r o vals p1 p2 => intro hf; simp [ren] at hf; subst hf; exact .cp cs off r o vals p1 p2
  | unk x => intro hf; simp [ren] at hf; subst hf; exact .unk x
  | agg cs vs h1 h0 h2 ih =>
    intro hf
    simp only [ren] at hf
    obtain ⟨l, hl, rfl⟩ := Option.map_eq_some_iff.1 hf
    obtain ⟨k1, k2⟩ := renL_some hl
    refine .agg _ _ (by omega) h0 fun i y v hy hv => ?_
    have hlt := lt_of_get hy
    have hx : cs[i]? = some (cs[i]'(by omega)) := List.getElem?_eq_getElem _
    exact ih i _ v hx hv (k2 i _ y hx hy)
  | tup cs vs h1 h2 ih =>
    intro hf
    simp only [ren] at hf
    obtain ⟨l, hl, rfl⟩ := Option.map_eq_some_iff.1 hf
    obtain ⟨k1, k2⟩ := renL_some hl
    refine .tup _ _ (by omega) fun i y v hy hv => ?_
    have hlt := lt_of_get hy
    have hx : cs[i]? = some (cs[i]'(by omega)) := List.getElem?_eq_getElem _
    exact ih i _ v hx hv (k2 i _ y hx hy)
  | ptr b off r o hm hb =>
    intro hf
    simp only [ren] at hf
    obtain ⟨k, hk, rfl⟩ := Option.map_eq_some_iff.1 hf
    obtain ⟨_, hk⟩ := entAt_some hk
    simp only [Nat.sub_zero] at hk
    obtain ⟨cs, hb⟩ := hb
    obtain ⟨x, hx, hin⟩ := in_at h hk
    rcases hin with ⟨cs', l, h1, h2, rfl⟩ | ⟨w, esz, rows, h1, rfl⟩
    · exact .ptr k off r o (by rw [in_μ_whole hk]; exact hm) ⟨l, hx⟩
    · rw [hb] at h1; cases h1
  | slr b i n v wm esz rows h0 hb hle hv =>
    intro hf
    simp only [ren] at hf
    obtain ⟨k, hk, rfl⟩ := Option.map_eq_some_iff.1 hf
    obtain ⟨_, hk⟩ := entAt_some hk
    simp only [Nat.sub_zero] at hk
    obtain ⟨x, hx, hin⟩ := in_at h hk
    rcases hin with ⟨cs', l, h1, h2, rfl⟩ | ⟨w, esz', rows', h1, rfl⟩
    · rw [hb] at h1; cases h1
    · rw [hb] at h1; injection h1 with h1; injection h1 with a1 a2 a3; subst a1 a2 a3
      refine .slr k i n v wm esz rows h0 hx hle fun e => ?_
      have hμ : (inSn s es blks).g.μ k = s.g.μ b := in_μ_whole hk
      rcases hv e with ⟨m', q1, q2, q3⟩ | ⟨r, cap, c, e1, fz, m', q⟩
      · exact .inl ⟨by rw [hμ]; exact m', q1, q2, q3⟩
      · exact .inr ⟨r, cap, c, e1, fz, by rw [hμ]; exact m', q⟩
  | ep b ext i off v wm esz rows h0 hb hle hv =>
    intro hf
    simp only [ren] at hf
    obtain ⟨k, hk, rfl⟩ := Option.map_eq_some_iff.1 hf
    obtain ⟨_, hk⟩ := entAt_some hk
    simp only [Nat.sub_zero] at hk
    obtain ⟨x, hx, hin⟩ := in_at h hk
    obtain ⟨esz', rows', row, h1, h2, h3, rfl⟩ := hin
    have h1' := h1
    rw [hb] at h1; injection h1 with h1; injection h1 with a1 a2 a3; subst a1 a2 a3
    have hlt := lt_of_get h3
    obtain ⟨r, m', hv⟩ := hv h2 (by omega)
    subst hv
    exact .ptr k off r (i * esz) (in_μ_elem hk h1' m') ⟨_, hx⟩
  | fn f first caps fs cs h1 h2 _ _ ih1 ih2 =>
    intro hf
    simp only [ren] at hf
    obtain ⟨l1, hl1, hf⟩ := Option.bind_eq_some_iff.1 hf
    obtain ⟨l2, hl2, rfl⟩ := Option.map_eq_some_iff.1 hf
    obtain ⟨k1, k2⟩ := renL_some hl1
    obtain ⟨k3, k4⟩ := renL_some hl2
    refine .fn f _ _ fs cs (by omega) (by omega) (fun i y v hy hv => ?_) (fun i y v hy hv => ?_)
    · have hlt := lt_of_get hy
      have hx : first[i]? = some (first[i]'(by omega)) := List.getElem?_eq_getElem _
      exact ih1 i _ v hx hv (k2 i _ y hx hy)
    · have hlt := lt_of_get hy
      have hx : caps[i]? = some (caps[i]'(by omega)) := List.getElem?_eq_getElem _
      exact ih2 i _ v hx hv (k4 i _ y hx hy)

def idE (es : List Ent) (k : Nat) : Nat := ((es[k]?).map Ent.id).getD 0

theorem idE_of {k : Nat} {e : Ent} (he : es[k]? = some e) : idE es k = e.id := by simp [idE, he]

include h in
theorem in_wr (k r o : Nat) (hw : Wr1 (inSn s es blks) k r o) : k < es.length ∧ Wr1 s (idE es k) r o := by
  unfold Wr1 at hw
  have hσ : (inSn s es blks).σ = blks := rfl
  rw [hσ] at hw
  cases hk : blks[k]? with
  | none => rw [hk] at hw; exact hw.elim
  | some x =>
    have hlt : k < es.length := by rw [h.len]; exact lt_of_get hk
    refine ⟨hlt, ?_⟩
    have hek : es[k]? = some es[k] := List.getElem?_eq_getElem hlt
    have hin := h.blk k _ x hek hk
    rw [idE_of hek]
    rw [hk] at hw
    unfold Wr1
    cases hcase : es[k] with
    | whole b =>
      rw [hcase] at hin hek
      rcases hin with ⟨cs', l, h1, h2, rfl⟩ | ⟨w, esz', rows', h1, rfl⟩
      · simp only [Ent.id]
        rw [h1]
        rw [in_μ_whole hek] at hw
        have := (renL_some h2).1
        simp only at hw ⊢
        rw [this]; exact hw
      · simp only [Ent.id]
        rw [h1]
        rw [in_μ_whole hek] at hw
        exact hw
    | elem b ext i =>
      rw [hcase] at hin hek
      obtain ⟨esz', rows', row, h1, h2, h3, rfl⟩ := hin
      simp only [Ent.id]
      rw [h1]
      obtain ⟨o0, m, _⟩ := hw
      have : ∃ p, s.g.μ b = some p ∧ p.1 = r := by
        simp only [inSn, hek, h1] at m
        cases hp : s.g.μ b with
        | none => simp [hp] at m
        | some p => simp [hp] at m; exact ⟨p, rfl, m.1⟩
      obtain ⟨p, hp, hr⟩ := this
      exact ⟨p.2, by rw [hp, ← hr]⟩

include h in
theorem in_inv : Inv (inSn s es blks) := by
  have hi := h.inv
  have hlen : (inSn s es blks).σ.length = es.length := h.len.symm
  refine inv_sel hi rfl ?_ ?_ (idE es) ?_ (fun k r o hw => (in_wr h k r o hw).2) (fun r o hc => ⟨(hi.const r o hc).1, fun k hw => (hi.const r o hc).2 _ (in_wr h k r o hw).2⟩)
  · intro k cs hk
    have hk : blks[k]? = some (.box cs) := hk
    have hlt : k < es.length := by rw [h.len]; exact lt_of_get hk
    have hek : es[k]? = some es[k] := List.getElem?_eq_getElem hlt
    have hin := h.blk k _ _ hek hk
    cases hcase : es[k] with
    | whole b =>
      rw [hcase] at hin hek
      rcases hin with ⟨cs', l, h1, h2, heq⟩ | ⟨w, esz', rows', h1, heq⟩
      · injection heq with heq; subst heq
        obtain ⟨k1, k2⟩ := renL_some h2
        obtain ⟨r, o, c, e, fz, hm, hh, hle, hx, hfr⟩ := hi.box _ _ h1
        refine ⟨r, o, c, e, fz, by rw [in_μ_whole hek]; exact hm, hh, by omega, fun i x hix => ?_, by rw [← k1]; exact hfr⟩
        have hi' := lt_of_get hix
        have hx0 : cs'[i]? = some (cs'[i]'(by omega)) := List.getElem?_eq_getElem _
        obtain ⟨v, hv, hr, h1⟩ := hx i _ hx0
        exact ⟨v, hv, in_rel h hr (k2 i _ x hx0 hix), h1⟩
      · cases heq
    | elem b ext i =>
      rw [hcase] at hin hek
      obtain ⟨esz', rows', row, h1, h2, h3, heq⟩ := hin
      injection heq with heq; subst heq
      have hlt' := lt_of_get h3
      rcases hi.arr _ _ _ _ h1 with ⟨hm, hr⟩ | ⟨r, c, e, fz, hm, hh, hrow, hl, hx, hfr⟩
      · subst hr; simp at h3
      · have hrl := hrow row (mem_of_get h3)
        have hbnd : i * esz' + esz' ≤ rows'.length * esz' := by
          have := Nat.mul_le_mul_right esz' (show i + 1 ≤ rows'.length from hlt')
          rwa [Nat.add_mul, Nat.one_mul] at this
        refine ⟨r, i * esz', c, e, fz, in_μ_elem hek h1 hm, hh, by simp; omega, fun j x hjx => ?_, fun o h1 h2 => hfr o (Nat.zero_le _) (by simp at h2; omega)⟩
        rw [List.getElem?_map] at hjx
        cases hrj : row[j]? with
        | none => simp [hrj] at hjx
        | some c0 =>
          simp [hrj] at hjx; subst hjx
          obtain ⟨⟨v, hv, hr⟩, _⟩ := hx i j row c0 h3 hrj
          exact ⟨v, hv, .p _ _ hr, hr.one⟩
  · intro k wm esz rows hk
    have hk : blks[k]? = some (.arr wm esz rows) := hk
    have hlt : k < es.length := by rw [h.len]; exact lt_of_get hk
    have hek : es[k]? = some es[k] := List.getElem?_eq_getElem hlt
    have hin := h.blk k _ _ hek hk
    cases hcase : es[k] with
    | whole b =>
      rw [hcase] at hin hek
      rcases hin with ⟨cs', l, h1, h2, heq⟩ | ⟨w, esz', rows', h1, heq⟩
      · cases heq
      · injection heq with a1 a2 a3; subst a1 a2 a3
        rcases hi.arr _ _ _ _ h1 with ⟨hm, hr⟩ | ⟨r, c, e, fz, hm, hq⟩
        · exact .inl ⟨by rw [in_μ_whole hek]; exact hm, hr⟩
        · exact .inr ⟨r, c, e, fz, by rw [in_μ_whole hek]; exact hm, hq⟩
    | elem b ext i =>
      rw [hcase] at hin hek
      obtain ⟨esz', rows', row, h1, h2, h3, heq⟩ := hin
      cases heq
  · intro k1 k2 h1 h2 he
    rw [hlen] at h1 h2
    have e1 : es[k1]? = some es[k1] := List.getElem?_eq_getElem h1
    have e2 : es[k2]? = some es[k2] := List.getElem?_eq_getElem h2
    rw [idE_of e1, idE_of e2] at he
    refine nodup_inj h.nodup (x := es[k1].id) ?_ ?_
    · rw [List.getElem?_map, e1]; rfl
    · rw [List.getElem?_map, e2, he]; rfl

end
end Go.Am
end

section
namespace Go.Am

/-- A block's content behind the call, in the caller's names. -/
def OutOk (s1 : Sn) (es : List Ent) (new : Nat) (σ2 : List Blk) (k : Nat) (y : Blk) : Prop :=
  match es[k]? with
  | some (.whole b) => (∃ cs l, y = .box cs ∧ bk.bkL es new cs = some l ∧ σ2[b]? = some (.box l)) ∨ (∃ w esz rows, y = .arr w esz rows ∧ σ2[b]? = some (.arr w esz rows))
  | some (.elem b _ i) => ∃ w esz rows row', s1.σ[b]? = some (.arr w esz rows) ∧ y = .box (row'.map .p) ∧ σ2[b]? = some (.arr w esz (rows.set i row'))
  | none => (∃ cs l, y = .box cs ∧ bk.bkL es new cs = some l ∧ σ2[new + (k - es.length)]? = some (.box l)) ∨ (∃ w esz rows, y = .arr w esz rows ∧ σ2[new + (k - es.length)]? = some (.arr w esz rows))

structure CallOut (s1 : Sn) (es : List Ent) (blks : List Blk) (new kf : Nat) (c' : Sn) (σ2 : List Blk) : Prop where
  cin : CallIn s1 es blks
  inv : Inv c'
  trans : Trans (inSn s1 es blks) c'
  len : c'.σ.length = es.length + kf
  slen : σ2.length = s1.σ.length
  dead : ∀ j, j < kf → s1.σ[new + j]? = some .dead
  out : ∀ k y, c'.σ[k]? = some y → OutOk s1 es new σ2 k y
  same : ∀ b, b ∉ es.map Ent.id → (b < new ∨ new + kf ≤ b) → σ2[b]? = s1.σ[b]?

/-- Where a caller's block is in the callee. -/
def kOf (es : List Ent) (new kf b : Nat) : Option Nat :=
  match entAt (.whole b) es 0 with
  | some k => some k
  | none => if new ≤ b ∧ b < new + kf ∧ b ∉ es.map Ent.id then some (es.length + (b - new)) else none

def outSn (s1 : Sn) (es : List Ent) (new kf : Nat) (c' : Sn) (σ2 : List Blk) : Sn :=
  ⟨σ2, ⟨fun b => match kOf es new kf b with
    | some k => c'.g.μ k
    | none => s1.g.μ b, c'.g.C⟩, c'.w⟩

theorem entAt_none {e : Ent} : ∀ {es : List Ent} {k : Nat}, entAt e es k = none → e ∉ es
  | [], k, _ => by simp
  | x :: r, k, h => by
    simp only [entAt] at h
    split at h
    · cases h
    · rename_i hx
      simp only [List.mem_cons, not_or]
      exact ⟨fun e => hx e.symm, entAt_none h⟩

section
variable {s1 c' : Sn} {es : List Ent} {blks σ2 : List Blk} {new kf : Nat} (h : CallOut s1 es blks new kf c' σ2)

theorem mem_id {k : Nat} {e : Ent} (he : es[k]? = some e) : e.id ∈ es.map Ent.id := List.mem_map.2 ⟨e, mem_of_get he, rfl⟩

include h in
theorem id_inj {k1 k2 : Nat} {e1 e2 : Ent} (h1 : es[k1]? = some e1) (h2 : es[k2]? = some e2) (he : e1.id = e2.id) : k1 = k2 :=
  nodup_inj h.cin.nodup (x := e1.id) (by rw [List.getElem?_map, h1]; rfl) (by rw [List.getElem?_map, h2, he]; rfl)

include h in
/-- The entries' blocks are in use. -/
theorem id_live {k : Nat} {e : Ent} (he : es[k]? = some e) : ∃ y, s1.σ[e.id]? = some y ∧ y ≠ .dead := by
  obtain ⟨x, _, hin⟩ := in_at h.cin he
  cases e with
  | whole b =>
    rcases hin with ⟨cs', l, h1, h2, rfl⟩ | ⟨w, esz', rows', h1, rfl⟩
    · exact ⟨_, h1, by simp⟩
    · exact ⟨_, h1, by simp⟩
  | elem b ext i =>
    obtain ⟨esz', rows', row, h1, h2, h3, rfl⟩ := hin
    exact ⟨_, h1, by simp⟩

include h in
theorem fresh_id {j : Nat} (hj : j < kf) : new + j ∉ es.map Ent.id := by
  intro hm
  obtain ⟨e, he, hid⟩ := List.mem_map.1 hm
  obtain ⟨k, hk⟩ := List.getElem?_of_mem he
  obtain ⟨y, hy, hd⟩ := id_live h hk
  rw [hid, h.dead j hj] at hy
  injection hy with hy; exact hd hy.symm

include h in
theorem kOf_whole {k b : Nat} (he : es[k]? = some (.whole b)) : kOf es new kf b = some k := by
  unfold kOf
  cases hc : entAt (.whole b) es 0 with
  | none => exact absurd (mem_of_get he) (entAt_none hc)
  | some k' =>
    obtain ⟨_, hk'⟩ := entAt_some hc
    simp only [Nat.sub_zero] at hk'
    rw [id_inj h hk' he rfl]

include h in
theorem kOf_elem {k b e i : Nat} (he : es[k]? = some (.elem b e i)) : kOf es new kf b = none := by
  unfold kOf
  cases hc : entAt (.whole b) es 0 with
  | some k' =>
    obtain ⟨_, hk'⟩ := entAt_some hc
    simp only [Nat.sub_zero] at hk'
    have := id_inj h hk' he rfl
    subst this
    rw [he] at hk'; cases hk'
  | none =>
    have : b ∈ es.map Ent.id := mem_id he
    simp [this]

include h in
theorem kOf_fresh {j : Nat} (hj : j < kf) : kOf es new kf (new + j) = some (es.length + j) := by
  unfold kOf
  have hn := fresh_id h hj
  cases hc : entAt (.whole (new + j)) es 0 with
  | some k' =>
    obtain ⟨_, hk'⟩ := entAt_some hc
    simp only [Nat.sub_zero] at hk'
    exact absurd (mem_id hk') hn
  | none =>
    simp only
    rw [if_pos ⟨by omega, by omega, hn⟩]
    congr 1; omega

theorem kOf_other {b : Nat} (h1 : b ∉ es.map Ent.id) (h2 : b < new ∨ new + kf ≤ b) : kOf es new kf b = none := by
  unfold kOf
  cases hc : entAt (.whole b) es 0 with
  | some k' =>
    obtain ⟨_, hk'⟩ := entAt_some hc
    simp only [Nat.sub_zero] at hk'
    exact absurd (mem_id hk') h1
  | none =>
    simp only
    rw [if_neg (by omega)]

/-- The caller's name of a callee's block. -/
def tgt (es : List Ent) (new k : Nat) : Nat := match es[k]? with
  | some e => e.id
  | none => new + (k - es.length)

include h in
theorem out_μ {k : Nat} (hk : k < es.length + kf) (hne : ∀ b e i, es[k]? ≠ some (.elem b e i)) : (outSn s1 es new kf c' σ2).g.μ (tgt es new k) = c'.g.μ k := by
  simp only [outSn, tgt]
  cases he : es[k]? with
  | some e =>
    cases e with
    | whole b => simp only [Ent.id]; rw [kOf_whole h he]
    | elem b e i => exact absurd he (hne b e i)
  | none =>
    have hge : es.length ≤ k := by
      rcases Nat.lt_or_ge k es.length with hlt | hge
      · rw [List.getElem?_eq_getElem hlt] at he; cases he
      · exact hge
    have := kOf_fresh h (j := k - es.length) (by omega)
    simp only
    rw [this]
    simp only
    congr 1; omega

include h in
theorem elem_facts {k b ext i : Nat} (he : es[k]? = some (.elem b ext i)) : ∃ esz rows row r row', s1.σ[b]? = some (.arr true esz rows) ∧ ext = rows.length ∧ rows[i]? = some row ∧ s1.g.μ b = some (r, 0) ∧
    c'.σ[k]? = some (.box (row'.map .p)) ∧ row'.length = row.length ∧ row.length = esz ∧ c'.g.μ k = some (r, i * esz) ∧ σ2[b]? = some (.arr true esz (rows.set i row')) ∧ (outSn s1 es new kf c' σ2).g.μ b = some (r, 0) := by
  obtain ⟨x, hx, hin⟩ := in_at h.cin he
  obtain ⟨esz, rows, row, h1, h2, h3, rfl⟩ := hin
  have hlt := lt_of_get h3
  rcases h.cin.inv.arr _ _ _ _ h1 with ⟨hm, hr⟩ | ⟨r, c, e, fz, hm, hh, hrow, hl, hxx, hfr⟩
  · subst hr; simp at h3
  · obtain ⟨⟨cs', q1, q2⟩, q3⟩ := h.trans.box k _ hx
    have ho := h.out k _ q1
    unfold OutOk at ho
    rw [he] at ho
    obtain ⟨w, esz', rows', row', o1, o2, o3⟩ := ho
    rw [h1] at o1; injection o1 with o1; injection o1 with a1 a2 a3; subst a1 a2 a3
    injection o2 with o2; subst o2
    refine ⟨esz, rows, row, r, row', h1, h2, h3, hm, q1, by simpa using q2, hrow row (mem_of_get h3), ?_, o3, ?_⟩
    · rw [q3, in_μ_elem he h1 hm]
    · simp only [outSn]; rw [kOf_elem h he]; exact hm

include h in
theorem out_rel {x y : AV} {v : Value} (hr : RelA c' x v) : bk es new x = some y → RelA (outSn s1 es new kf c' σ2) y v := by
  have at_k : ∀ {k : Nat} {z : Blk}, c'.σ[k]? = some z → k < es.length + kf := fun hz => by rw [← h.len]; exact lt_of_get hz
  induction hr generalizing y with
  | p c v hp => intro hf; simp [bk] at hf; subst hf; exact .p _ _ hp
  | data cs vs h1 h2 => intro hf; simp [bk] at hf; subst hf; exact .data _ _ h1 h2
  | cp cs off r o vals p1 p2 => intro hf; simp [bk] at hf; subst hf; exact .cp cs off r o vals p1 p2
  | unk x => intro hf; simp [bk] at hf; subst hf; exact .unk x
  | agg cs vs h1 h0 h2 ih =>
    intro hf
    simp only [bk] at hf
    split at hf
    · rename_i l hl
      injection hf with hf; subst hf
      obtain ⟨k1, k2⟩ := bkL_some hl
      refine .agg _ _ (by omega) h0 fun i y v hy hv => ?_
      have hlt := lt_of_get hy
      have hx : cs[i]? = some (cs[i]'(by omega)) := List.getElem?_eq_getElem _
      exact ih i _ v hx hv (k2 i _ y hx hy)
    · cases hf
  | tup cs vs h1 h2 ih =>
    intro hf
    simp only [bk] at hf
    split at hf
    · rename_i l hl
      injection hf with hf; subst hf
      obtain ⟨k1, k2⟩ := bkL_some hl
      refine .tup _ _ (by omega) fun i y v hy hv => ?_
      have hlt := lt_of_get hy
      have hx : cs[i]? = some (cs[i]'(by omega)) := List.getElem?_eq_getElem _
      exact ih i _ v hx hv (k2 i _ y hx hy)
    · cases hf
  | ptr k off r o hm hb =>
    intro hf
    obtain ⟨cs, hb⟩ := hb
    have hk := at_k hb
    have ho := h.out k _ hb
    unfold OutOk at ho
    simp only [bk] at hf
    split at hf
    · rename_i hlt
      have hek : es[k]? = some es[k] := List.getElem?_eq_getElem hlt
      split at hf
      · rename_i b he
        injection hf with hf; subst hf
        have hμ := out_μ h hk (by rw [he]; simp)
        simp only [tgt, he, Ent.id] at hμ
        rw [he] at ho
        rcases ho with ⟨cs', l, e1, e2, e3⟩ | ⟨w, esz, rows, e1, e2⟩
        · exact .ptr b off r o (by rw [hμ]; exact hm) ⟨l, e3⟩
        · cases e1
      · rename_i b e i he
        injection hf with hf; subst hf
        obtain ⟨esz, rows, row, r', row', f1, f2, f3, f4, f5, f6, f7, f8, f9, f10⟩ := elem_facts h he
        rw [hm] at f8; injection f8 with f8; injection f8 with g1 g2; subst g1 g2
        exact .ep b e i off _ true esz (rows.set i row') ⟨_, _, rfl⟩ f9 (by simp [f2]) fun _ _ => ⟨r, f10, rfl⟩
      · cases hf
    · rename_i hge
      injection hf with hf; subst hf
      have he : es[k]? = none := List.getElem?_eq_none (by omega)
      have hμ := out_μ h hk (by rw [he]; simp)
      simp only [tgt, he] at hμ
      rw [he] at ho
      rcases ho with ⟨cs', l, e1, e2, e3⟩ | ⟨w, esz, rows, e1, e2⟩
      · exact .ptr _ off r o (by rw [hμ]; exact hm) ⟨l, e3⟩
      · cases e1
  | slr k i n v wm esz rows h0 hb hle hv =>
    intro hf
    have hk := at_k hb
    have ho := h.out k _ hb
    unfold OutOk at ho
    have go : ∀ b, (outSn s1 es new kf c' σ2).g.μ b = c'.g.μ k → σ2[b]? = some (.arr wm esz rows) → RelA (outSn s1 es new kf c' σ2) (.slr b i n) v := by
      intro b hμ hσ
      refine .slr b i n v wm esz rows h0 hσ hle fun e => ?_
      rcases hv e with ⟨m', q1, q2, q3⟩ | ⟨r, cap, c, e1, fz, m', q⟩
      · exact .inl ⟨by rw [hμ]; exact m', q1, q2, q3⟩
      · exact .inr ⟨r, cap, c, e1, fz, by rw [hμ]; exact m', q⟩
    simp only [bk] at hf
    split at hf
    · rename_i hlt
      split at hf
      · rename_i b he
        injection hf with hf; subst hf
        have hμ := out_μ h hk (by rw [he]; simp)
        simp only [tgt, he, Ent.id] at hμ
        rw [he] at ho
        rcases ho with ⟨cs', l, e1, e2, e3⟩ | ⟨w, esz', rows', e1, e2⟩
        · cases e1
        · injection e1 with a1 a2 a3; subst a1 a2 a3
          exact go b hμ e2
      · cases hf
    · rename_i hge
      injection hf with hf; subst hf
      have he : es[k]? = none := List.getElem?_eq_none (by omega)
      have hμ := out_μ h hk (by rw [he]; simp)
      simp only [tgt, he] at hμ
      rw [he] at ho
      rcases ho with ⟨cs', l, e1, e2, e3⟩ | ⟨w, esz', rows', e1, e2⟩
      · cases e1
      · injection e1 with a1 a2 a3; subst a1 a2 a3
        exact go _ hμ e2
  | ep k ext i off v wm esz rows h0 hb hle hv =>
    intro hf
    have hk := at_k hb
    have ho := h.out k _ hb
    unfold OutOk at ho
    have go : ∀ b, (outSn s1 es new kf c' σ2).g.μ b = c'.g.μ k → σ2[b]? = some (.arr wm esz rows) → RelA (outSn s1 es new kf c' σ2) (.ep b ext i off) v := by
      intro b hμ hσ
      refine .ep b ext i off v wm esz rows h0 hσ hle fun e1 e2 => ?_
      obtain ⟨r, m', q⟩ := hv e1 e2
      exact ⟨r, by rw [hμ]; exact m', q⟩
    simp only [bk] at hf
    split at hf
    · rename_i hlt
      split at hf
      · rename_i b he
        injection hf with hf; subst hf
        have hμ := out_μ h hk (by rw [he]; simp)
        simp only [tgt, he, Ent.id] at hμ
        rw [he] at ho
        rcases ho with ⟨cs', l, e1, e2, e3⟩ | ⟨w, esz', rows', e1, e2⟩
        · cases e1
        · injection e1 with a1 a2 a3; subst a1 a2 a3
          exact go b hμ e2
      · cases hf
    · rename_i hge
      injection hf with hf; subst hf
      have he : es[k]? = none := List.getElem?_eq_none (by omega)
      have hμ := out_μ h hk (by rw [he]; simp)
      simp only [tgt, he] at hμ
      rw [he] at ho
      rcases ho with ⟨cs', l, e1, e2, e3⟩ | ⟨w, esz', rows', e1, e2⟩
      · cases e1
      · injection e1 with a1 a2 a3; subst a1 a2 a3
        exact go _ hμ e2
  | fn f first caps fs cs h1 h2 _ _ ih1 ih2 =>
    intro hf
    simp only [bk] at hf
    split at hf
    · rename_i a c ha hc
      injection hf with hf; subst hf
      obtain ⟨k1, k2⟩ := bkL_some ha
      obtain ⟨k3, k4⟩ := bkL_some hc
      refine .fn f a c fs cs (by omega) (by omega) (fun i y v hy hv => ?_) (fun i y v hy hv => ?_)
      · have hlt := lt_of_get hy
        have hx : first[i]? = some (first[i]'(by omega)) := List.getElem?_eq_getElem _
        exact ih1 i _ v hx hv (k2 i _ y hx hy)
      · have hlt := lt_of_get hy
        have hx : caps[i]? = some (caps[i]'(by omega)) := List.getElem?_eq_getElem _
        exact ih2 i _ v hx hv (k4 i _ y hx hy)
    · cases hf

/-- A caller's block behind the call is the callee's, an element's array, or untouched. -/
inductive Kind (es : List Ent) (new kf b : Nat) : Prop where
  | out (k : Nat) : k < es.length + kf → tgt es new k = b → (∀ b e i, es[k]? ≠ some (.elem b e i)) → Kind es new kf b
  | elem (k e i : Nat) : es[k]? = some (.elem b e i) → Kind es new kf b
  | other : b ∉ es.map Ent.id → (b < new ∨ new + kf ≤ b) → Kind es new kf b

theorem kind_of (b : Nat) : Kind es new kf b := by
  by_cases hm : b ∈ es.map Ent.id
  · obtain ⟨e, he, hid⟩ := List.mem_map.1 hm
    obtain ⟨k, hk⟩ := List.getElem?_of_mem he
    have hlt := lt_of_get hk
    cases e with
    | whole b' => simp only [Ent.id] at hid; subst hid; exact .out k (by omega) (by simp [tgt, hk, Ent.id]) (by rw [hk]; simp)
    | elem b' e' i' => simp only [Ent.id] at hid; subst hid; exact .elem k e' i' hk
  · by_cases hr : new ≤ b ∧ b < new + kf
    · have he : es[es.length + (b - new)]? = none := List.getElem?_eq_none (by omega)
      refine .out (es.length + (b - new)) (by omega) ?_ (by rw [he]; simp)
      simp only [tgt, he]; omega
    · exact .other hm (by omega)

include h in
theorem out_wr {k : Nat} (hk : k < es.length + kf) (hne : ∀ b e i, es[k]? ≠ some (.elem b e i)) (r o : Nat) :
    Wr1 (outSn s1 es new kf c' σ2) (tgt es new k) r o ↔ Wr1 c' k r o := by
  have hμ := out_μ h hk hne
  have hlt : k < c'.σ.length := by rw [h.len]; exact hk
  have hg : c'.σ[k]? = some c'.σ[k] := List.getElem?_eq_getElem hlt
  have ho := h.out k _ hg
  unfold OutOk at ho
  unfold Wr1
  rw [hg, hμ]
  have hσ : (outSn s1 es new kf c' σ2).σ = σ2 := rfl
  rw [hσ]
  cases he : es[k]? with
  | some e =>
    cases e with
    | whole b =>
      simp only [tgt, he, Ent.id]
      rw [he] at ho
      rcases ho with ⟨cs', l, e1, e2, e3⟩ | ⟨w, esz', rows', e1, e2⟩
      · rw [e1, e3]; simp only; rw [(bkL_some e2).1]
      · rw [e1, e2]
    | elem b e i => exact absurd he (hne b e i)
  | none =>
    simp only [tgt, he]
    rw [he] at ho
    rcases ho with ⟨cs', l, e1, e2, e3⟩ | ⟨w, esz', rows', e1, e2⟩
    · rw [e1, e3]; simp only; rw [(bkL_some e2).1]
    · rw [e1, e2]

include h in
theorem elem_wr {k b e i : Nat} (he : es[k]? = some (.elem b e i)) (r o : Nat) : Wr1 (outSn s1 es new kf c' σ2) b r o ↔ Wr1 s1 b r o := by
  obtain ⟨esz, rows, row, r', row', f1, f2, f3, f4, f5, f6, f7, f8, f9, f10⟩ := elem_facts h he
  unfold Wr1
  have hσ : (outSn s1 es new kf c' σ2).σ = σ2 := rfl
  rw [hσ, f9, f1, f10, f4]

include h in
theorem other_wr {b : Nat} (h1 : b ∉ es.map Ent.id) (h2 : b < new ∨ new + kf ≤ b) (r o : Nat) : Wr1 (outSn s1 es new kf c' σ2) b r o ↔ Wr1 s1 b r o := by
  unfold Wr1
  have hσ : (outSn s1 es new kf c' σ2).σ = σ2 := rfl
  have hμ : (outSn s1 es new kf c' σ2).g.μ b = s1.g.μ b := by simp only [outSn]; rw [kOf_other h1 h2]
  rw [hσ, h.same b h1 h2, hμ]

include h in
/-- What the callee may write was the caller's to write. -/
theorem callee_wr {r o : Nat} (hw : Wr c' r o) : (∃ k e, es[k]? = some e ∧ Wr1 (inSn s1 es blks) k r o ∧ Wr1 s1 e.id r o) ∨ s1.w.heap.size ≤ r := by
  rcases h.trans.wnew r o hw with ⟨k, hk⟩ | hn
  · obtain ⟨hlt, hw'⟩ := in_wr h.cin k r o hk
    have he : es[k]? = some es[k] := List.getElem?_eq_getElem hlt
    rw [idE_of he] at hw'
    exact .inl ⟨k, _, he, hk, hw'⟩
  · exact .inr hn

include h in
theorem out_trans : Trans s1 (outSn s1 es new kf c' σ2) := by
  refine ⟨?_, fun r o hc => h.trans.cmono r o hc, fun r o hc => ?_, fun r o ⟨b, hw⟩ => ?_, Nat.le_of_eq h.slen.symm, fun b cs hb => ?_, fun b wm esz rows hb => ?_⟩
  · refine h.trans.keep.mono fun r o ⟨k, hk⟩ => ?_
    exact ⟨_, (in_wr h.cin k r o hk).2⟩
  · rcases h.trans.cnew r o hc with hc | ⟨k, hk⟩ | hn
    · exact .inl hc
    · exact .inr (.inl ⟨_, (in_wr h.cin k r o hk).2⟩)
    · exact .inr (.inr hn)
  · cases kind_of (es := es) (new := new) (kf := kf) b with
    | out k hk ht hne =>
      subst ht
      rcases callee_wr h ⟨k, (out_wr h hk hne r o).1 hw⟩ with ⟨k', e, _, _, hw'⟩ | hn
      · exact .inl ⟨_, hw'⟩
      · exact .inr hn
    | elem k e i he => exact .inl ⟨b, (elem_wr h he r o).1 hw⟩
    | other h1 h2 => exact .inl ⟨b, (other_wr h h1 h2 r o).1 hw⟩
  · cases kind_of (es := es) (new := new) (kf := kf) b with
    | out k hk ht hne =>
      cases he : es[k]? with
      | none =>
        exfalso
        simp only [tgt, he] at ht
        have hge : es.length ≤ k := by
          rcases Nat.lt_or_ge k es.length with hlt | hge
          · rw [List.getElem?_eq_getElem hlt] at he; cases he
          · exact hge
        have := h.dead (k - es.length) (by omega)
        rw [ht, hb] at this; cases this
      | some e =>
        cases e with
        | elem b e i => exact absurd he (hne b e i)
        | whole b' =>
          simp only [tgt, he, Ent.id] at ht; subst ht
          obtain ⟨x, hx, hin⟩ := in_at h.cin he
          rcases hin with ⟨cs', l, h1, h2, rfl⟩ | ⟨w, esz', rows', h1, rfl⟩
          · rw [hb] at h1; injection h1 with h1; injection h1 with h1; subst h1
            obtain ⟨⟨cs2, q1, q2⟩, q3⟩ := h.trans.box k _ hx
            have ho := h.out k _ q1
            unfold OutOk at ho
            rw [he] at ho
            have hμ := out_μ h hk hne
            simp only [tgt, he, Ent.id] at hμ
            rcases ho with ⟨cs3, l', e1, e2, e3⟩ | ⟨w, esz, rows, e1, e2⟩
            · injection e1 with e1; subst e1
              refine ⟨⟨l', e3, ?_⟩, ?_⟩
              · rw [← (bkL_some e2).1, q2, (renL_some h2).1]
              · rw [hμ, q3, in_μ_whole he]
            · cases e1
          · rw [hb] at h1; cases h1
    | elem k e i he =>
      obtain ⟨esz, rows, row, r', row', f1, _⟩ := elem_facts h he
      rw [hb] at f1; cases f1
    | other h1 h2 =>
      refine ⟨⟨cs, by rw [← hb]; exact h.same b h1 h2, rfl⟩, ?_⟩
      simp only [outSn]; rw [kOf_other h1 h2]
  · cases kind_of (es := es) (new := new) (kf := kf) b with
    | out k hk ht hne =>
      cases he : es[k]? with
      | none =>
        exfalso
        simp only [tgt, he] at ht
        have hge : es.length ≤ k := by
          rcases Nat.lt_or_ge k es.length with hlt | hge
          · rw [List.getElem?_eq_getElem hlt] at he; cases he
          · exact hge
        have := h.dead (k - es.length) (by omega)
        rw [ht, hb] at this; cases this
      | some e =>
        cases e with
        | elem b e i => exact absurd he (hne b e i)
        | whole b' =>
          simp only [tgt, he, Ent.id] at ht; subst ht
          obtain ⟨x, hx, hin⟩ := in_at h.cin he
          rcases hin with ⟨cs', l, h1, h2, rfl⟩ | ⟨w, esz', rows', h1, rfl⟩
          · rw [hb] at h1; cases h1
          · rw [hb] at h1; injection h1 with h1; injection h1 with a1 a2 a3; subst a1 a2 a3
            obtain ⟨wm', rows2, q1, q2, q3, q4⟩ := h.trans.arr k _ _ _ hx
            have ho := h.out k _ q1
            unfold OutOk at ho
            rw [he] at ho
            have hμ := out_μ h hk hne
            simp only [tgt, he, Ent.id] at hμ
            rcases ho with ⟨cs3, l', e1, e2, e3⟩ | ⟨w, esz2, rows3, e1, e2⟩
            · cases e1
            · injection e1 with a1 a2 a3; subst a1 a2 a3
              exact ⟨wm', rows2, e2, q2, q3, fun e => by rw [hμ, q4 e, in_μ_whole he]⟩
    | elem k e i he =>
      obtain ⟨esz', rows', row, r', row', f1, f2, f3, f4, f5, f6, f7, f8, f9, f10⟩ := elem_facts h he
      rw [hb] at f1; injection f1 with f1; injection f1 with a1 a2 a3; subst a1 a2 a3
      exact ⟨true, _, f9, fun _ => rfl, by simp, fun _ => by rw [f10, f4]⟩
    | other h1 h2 =>
      refine ⟨wm, rows, by rw [← hb]; exact h.same b h1 h2, id, Nat.le_refl _, fun _ => ?_⟩
      simp only [outSn]; rw [kOf_other h1 h2]

include h in
theorem out_inv : Inv (outSn s1 es new kf c' σ2) := by
  have hi := h.cin.inv
  have t := out_trans h
  have notOther : ∀ {b}, ¬ (b ∈ es.map Ent.id ∨ (new ≤ b ∧ b < new + kf)) → b ∉ es.map Ent.id ∧ (b < new ∨ new + kf ≤ b) := fun hn => ⟨fun hm => hn (.inl hm), by omega⟩
  -- the element's own cells are still the callee's
  have elem_back : ∀ {k b e i r o}, es[k]? = some (.elem b e i) → (Wr1 (inSn s1 es blks) k r o ↔ Wr1 c' k r o) := by
    intro k b e i r o he
    obtain ⟨x, hx, hin⟩ := in_at h.cin he
    obtain ⟨esz, rows, row, h1, h2, h3, rfl⟩ := hin
    obtain ⟨⟨cs', q1, q2⟩, q3⟩ := h.trans.box k _ hx
    have hx' : (inSn s1 es blks).σ[k]? = some (.box (row.map .p)) := hx
    unfold Wr1
    rw [hx', q1, q3]
    simp only [q2]
  -- what is written through a callee's block is no other block's of the caller
  have meet : ∀ {k b r o}, k < es.length + kf → Wr1 c' k r o → Wr1 s1 b r o → (∃ k', es[k']? = some (.whole b) ∨ ∃ e i, es[k']? = some (.elem b e i) ∧ k' = k) := by
    intro k b r o hk hw hb
    rcases callee_wr h ⟨k, hw⟩ with ⟨k', e, he, hwin, hw'⟩ | hn
    · have hid := hi.apart _ _ _ _ hw' hb
      cases e with
      | whole b' => simp only [Ent.id] at hid; subst hid; exact ⟨k', .inl he⟩
      | elem b' e' i' =>
        simp only [Ent.id] at hid; subst hid
        have := h.inv.apart _ _ _ _ ((elem_back he).1 hwin) hw
        exact ⟨k', .inr ⟨e', i', he, this⟩⟩
    · have := wr_lt hi b r o hb; omega
  refine inv_of hi t (fun b => b ∈ es.map Ent.id ∨ (new ≤ b ∧ b < new + kf)) ?_ ?_ ?_ ?_ ?_ ?_ ?_ ?_
  · intro b hn
    obtain ⟨h1, h2⟩ := notOther hn
    exact ⟨h.same b h1 h2, by simp only [outSn]; rw [kOf_other h1 h2]⟩
  · intro b r o v hn hw hv
    refine h.trans.keep.cell ?_ hv
    rintro ⟨k, hk⟩
    obtain ⟨hlt, hw'⟩ := in_wr h.cin k r o hk
    have he : es[k]? = some es[k] := List.getElem?_eq_getElem hlt
    rw [idE_of he] at hw'
    have := hi.apart _ _ _ _ hw' hw
    exact hn (.inl (this ▸ mem_id he))
  · intro b cs hd hb
    have hb : σ2[b]? = some (.box cs) := hb
    cases kind_of (es := es) (new := new) (kf := kf) b with
    | other h1 h2 => rcases hd with hd | hd; exact absurd hd h1; omega
    | elem k e i he =>
      obtain ⟨esz', rows', row, r', row', f1, f2, f3, f4, f5, f6, f7, f8, f9, f10⟩ := elem_facts h he
      rw [hb] at f9; cases f9
    | out k hk ht hne =>
      subst ht
      have hlt : k < c'.σ.length := by rw [h.len]; exact hk
      have hg : c'.σ[k]? = some c'.σ[k] := List.getElem?_eq_getElem hlt
      have ho := h.out k _ hg
      unfold OutOk at ho
      have key : ∃ cs0, c'.σ[k]? = some (.box cs0) ∧ bk.bkL es new cs0 = some cs := by
        cases he : es[k]? with
        | some e =>
          cases e with
          | elem b e i => exact absurd he (hne b e i)
          | whole b' =>
            simp only [tgt, he, Ent.id] at hb
            rw [he] at ho
            rcases ho with ⟨cs3, l', e1, e2, e3⟩ | ⟨w, esz2, rows3, e1, e2⟩
            · rw [hb] at e3; injection e3 with e3; injection e3 with e3; subst e3; exact ⟨cs3, by rw [hg, e1], e2⟩
            · rw [hb] at e2; cases e2
        | none =>
          simp only [tgt, he] at hb
          rw [he] at ho
          rcases ho with ⟨cs3, l', e1, e2, e3⟩ | ⟨w, esz2, rows3, e1, e2⟩
          · rw [hb] at e3; injection e3 with e3; injection e3 with e3; subst e3; exact ⟨cs3, by rw [hg, e1], e2⟩
          · rw [hb] at e2; cases e2
      obtain ⟨cs0, h0, hl⟩ := key
      obtain ⟨k1, k2⟩ := bkL_some hl
      obtain ⟨r, o, c, e, fz, hm, hh, hle, hx, hfr⟩ := h.inv.box _ _ h0
      refine ⟨r, o, c, e, fz, by rw [out_μ h hk hne]; exact hm, hh, by omega, fun i x hix => ?_, by rw [← k1]; exact hfr⟩
      have hi' := lt_of_get hix
      have hx0 : cs0[i]? = some (cs0[i]'(by omega)) := List.getElem?_eq_getElem _
      obtain ⟨v, hv, hr, h1⟩ := hx i _ hx0
      exact ⟨v, hv, out_rel h hr (k2 i _ x hx0 hix), h1⟩
  · intro b wm esz rows hd hb
    have hb : σ2[b]? = some (.arr wm esz rows) := hb
    cases kind_of (es := es) (new := new) (kf := kf) b with
    | other h1 h2 => rcases hd with hd | hd; exact absurd hd h1; omega
    | elem k e i he =>
      obtain ⟨esz', rows', row, r', row', f1, f2, f3, f4, f5, f6, f7, f8, f9, f10⟩ := elem_facts h he
      rw [hb] at f9; injection f9 with f9; injection f9 with a1 a2 a3; subst a1 a2 a3
      have hlt := lt_of_get f3
      rcases hi.arr _ _ _ _ f1 with ⟨hm, hr⟩ | ⟨r, c, e1, fz, hm, hh, hrow, hl, hx, hfr⟩
      · subst hr; simp at f3
      · rw [f4] at hm; injection hm with hm; injection hm with hm _; subst hm
        obtain ⟨c2, q1, q2, q3⟩ := t.keep.2.1 _ _ _ _ hh
        obtain ⟨rr, oo, c3, e3, fz3, m3, hh3, hle3, hx3, hfr3⟩ := h.inv.box _ _ f5
        rw [f8] at m3; injection m3 with m3; injection m3 with w1 w2; subst w1 w2
        have q1' : c'.w.heap[r']? = some (.cells c2 e1 fz) := q1
        rw [q1'] at hh3; injection hh3 with hh3; injection hh3 with w1 w2 w3; subst w1 w2 w3
        refine .inr ⟨r', c2, e1, fz, f10, q1, fun rw0 hrw => ?_, by simp; omega, fun k0 j row0 x0 hk0 hj0 => ⟨?_, fun h => by cases h⟩, by rw [q2]; exact hfr⟩
        · rcases List.mem_or_eq_of_mem_set hrw with hm | hm
          · exact hrow _ hm
          · subst hm; omega
        · have hjlt := lt_of_get hj0
          by_cases hki : k0 = i
          · subst hki
            rw [List.getElem?_set_self hlt] at hk0
            injection hk0 with hk0; subst hk0
            obtain ⟨v, hv, hr, _⟩ := hx3 j (.p x0) (by simp [hj0])
            refine ⟨v, hv, ?_⟩
            cases hr with | p _ _ hr => exact hr
          · rw [List.getElem?_set_ne (Ne.symm hki)] at hk0
            obtain ⟨⟨v', hv', hr'⟩, _⟩ := hx k0 j row0 x0 hk0 hj0
            refine ⟨v', ?_, hr'.mono hi t⟩
            have hcell : cellAt s1.w r' (k0 * esz + j) = some v' := by rw [cellAt_of hh]; exact hv'
            have hj1 : j < esz := by rw [hrow _ (mem_of_get hk0)] at hjlt; exact hjlt
            have hnw : ¬ Wr (inSn s1 es blks) r' (k0 * esz + j) := by
              rintro ⟨k', hk'⟩
              obtain ⟨hlt', hw'⟩ := in_wr h.cin k' _ _ hk'
              have he' : es[k']? = some es[k'] := List.getElem?_eq_getElem hlt'
              rw [idE_of he'] at hw'
              have hb1 : Wr1 s1 b r' (k0 * esz + j) := by unfold Wr1; rw [f1]; exact ⟨0, f4⟩
              have hid := hi.apart _ _ _ _ hw' hb1
              have hkk : k' = k := id_inj h he' he hid
              subst hkk
              obtain ⟨x, hx', hin⟩ := in_at h.cin he
              obtain ⟨esz2, rows2, row2, g1, g2, g3, rfl⟩ := hin
              rw [f1] at g1; injection g1 with g1; injection g1 with z1 z2 z3; subst z2 z3
              have hx'' : (inSn s1 es blks).σ[k']? = some (.box (row2.map .p)) := hx'
              unfold Wr1 at hk'
              rw [hx'', in_μ_elem he f1 f4] at hk'
              obtain ⟨o0, m0, hlo, hhi⟩ := hk'
              injection m0 with m0; injection m0 with _ m0; subst m0
              have hrl2 := hrow row2 (mem_of_get g3)
              simp at hhi
              rcases Nat.lt_or_ge k0 i with hlt2 | hge2
              · have := idx_lt hlt2 hj1
                omega
              · have := Nat.mul_le_mul_right esz (show i + 1 ≤ k0 by omega)
                rw [Nat.add_mul, Nat.one_mul] at this
                omega
            have := h.trans.keep.cell hnw hcell
            rw [cellAt_of q1'] at this
            exact this
    | out k hk ht hne =>
      subst ht
      have hlt : k < c'.σ.length := by rw [h.len]; exact hk
      have hg : c'.σ[k]? = some c'.σ[k] := List.getElem?_eq_getElem hlt
      have ho := h.out k _ hg
      unfold OutOk at ho
      have key : c'.σ[k]? = some (.arr wm esz rows) := by
        cases he : es[k]? with
        | some e =>
          cases e with
          | elem b e i => exact absurd he (hne b e i)
          | whole b' =>
            simp only [tgt, he, Ent.id] at hb
            rw [he] at ho
            rcases ho with ⟨cs3, l', e1, e2, e3⟩ | ⟨w, esz2, rows3, e1, e2⟩
            · rw [hb] at e3; cases e3
            · rw [hb] at e2; injection e2 with e2; rw [hg, e1, e2]
        | none =>
          simp only [tgt, he] at hb
          rw [he] at ho
          rcases ho with ⟨cs3, l', e1, e2, e3⟩ | ⟨w, esz2, rows3, e1, e2⟩
          · rw [hb] at e3; cases e3
          · rw [hb] at e2; injection e2 with e2; rw [hg, e1, e2]
      rcases h.inv.arr _ _ _ _ key with ⟨hm, hr⟩ | ⟨r, c, e, fz, hm, hq⟩
      · exact .inl ⟨by rw [out_μ h hk hne]; exact hm, hr⟩
      · exact .inr ⟨r, c, e, fz, by rw [out_μ h hk hne]; exact hm, hq⟩
  · -- apart
    intro b1 b2 r o hd h1 h2
    cases kind_of (es := es) (new := new) (kf := kf) b1 with
    | other g1 g2 => rcases hd with hd | hd; exact absurd hd g1; omega
    | out k1 hk1 ht1 hne1 =>
      subst ht1
      have w1 := (out_wr h hk1 hne1 r o).1 h1
      cases kind_of (es := es) (new := new) (kf := kf) b2 with
      | out k2 hk2 ht2 hne2 =>
        subst ht2
        have w2 := (out_wr h hk2 hne2 r o).1 h2
        rw [h.inv.apart _ _ _ _ w1 w2]
      | elem k2 e i he =>
        exfalso
        have w2 := (elem_wr h he r o).1 h2
        obtain ⟨k', hk' | ⟨e', i', hk', hkk⟩⟩ := meet hk1 w1 w2
        · have := id_inj h hk' he rfl
          subst this; rw [he] at hk'; cases hk'
        · subst hkk; exact hne1 _ _ _ hk'
      | other g1 g2 =>
        exfalso
        have w2 := (other_wr h g1 g2 r o).1 h2
        obtain ⟨k', hk' | ⟨e', i', hk', hkk⟩⟩ := meet hk1 w1 w2
        · exact g1 (mem_id hk')
        · exact g1 (mem_id hk')
    | elem k1 e1 i1 he1 =>
      have w1 := (elem_wr h he1 r o).1 h1
      cases kind_of (es := es) (new := new) (kf := kf) b2 with
      | out k2 hk2 ht2 hne2 =>
        subst ht2
        exfalso
        have w2 := (out_wr h hk2 hne2 r o).1 h2
        obtain ⟨k', hk' | ⟨e', i', hk', hkk⟩⟩ := meet hk2 w2 w1
        · have := id_inj h hk' he1 rfl
          subst this; rw [he1] at hk'; cases hk'
        · subst hkk; exact hne2 _ _ _ hk'
      | elem k2 e i he => exact hi.apart _ _ _ _ w1 ((elem_wr h he r o).1 h2)
      | other g1 g2 => exact hi.apart _ _ _ _ w1 ((other_wr h g1 g2 r o).1 h2)
  · exact fun r o hc => (h.inv.const r o hc).1
  · intro r o b hc hd hw
    cases kind_of (es := es) (new := new) (kf := kf) b with
    | other g1 g2 => rcases hd with hd | hd; exact absurd hd g1; omega
    | out k hk ht hne =>
      subst ht
      exact (h.inv.const r o hc).2 _ ((out_wr h hk hne r o).1 hw)
    | elem k e i he =>
      have w1 := (elem_wr h he r o).1 hw
      rcases h.trans.cnew r o hc with hc0 | ⟨k', hk'⟩ | hn
      · exact (hi.const r o hc0).2 _ w1
      · obtain ⟨hlt', hw'⟩ := in_wr h.cin k' _ _ hk'
        have he' : es[k']? = some es[k'] := List.getElem?_eq_getElem hlt'
        rw [idE_of he'] at hw'
        have hid := hi.apart _ _ _ _ hw' w1
        have hkk : k' = k := id_inj h he' he hid
        subst hkk
        exact (h.inv.const r o hc).2 _ ((elem_back he).1 hk')
      · have hn : s1.w.heap.size ≤ r := hn
        have := wr_lt hi _ _ _ w1; omega
  · intro r o b hc hn0 hd hw
    rcases h.trans.cnew r o hc with hc0 | ⟨k', hk'⟩ | hn
    · exact hn0 hc0
    · obtain ⟨hlt', hw'⟩ := in_wr h.cin k' _ _ hk'
      have he' : es[k']? = some es[k'] := List.getElem?_eq_getElem hlt'
      rw [idE_of he'] at hw'
      have hid := hi.apart _ _ _ _ hw' hw
      exact hd (.inl (hid ▸ mem_id he'))
    · have hn : s1.w.heap.size ≤ r := hn
      have := wr_lt hi _ _ _ hw; omega

end
end Go.Am
end

section
namespace Go.Am
section
variable {P : Program} {F : Orc} {s : Sn} {a : Act} {env : List (Nat × AV)} {o : Oper} {new : Nat} {e : Eff}

theorem argR_rel {σ0 : List Blk} (hi : Inv s) (hF : Frz σ0 s.σ) {x : AV} {y : AV × List (Nat × Blk)} {v : Value} (h : (argR x).run ⟨env, σ0⟩ = some y) (hr : RelA s x v) :
    ∃ g', Inv ⟨upd y.2 s.σ, g', s.w⟩ ∧ Trans s ⟨upd y.2 s.σ, g', s.w⟩ ∧ Frz s.σ (upd y.2 s.σ) ∧ RelA ⟨upd y.2 s.σ, g', s.w⟩ y.1 v := by
  have same : ∀ {z : AV}, (RM.ret (z, []) : RM (AV × List (Nat × Blk))).run ⟨env, σ0⟩ = some y → RelA s z v → ∃ g', Inv ⟨upd y.2 s.σ, g', s.w⟩ ∧ Trans s ⟨upd y.2 s.σ, g', s.w⟩ ∧ Frz s.σ (upd y.2 s.σ) ∧ RelA ⟨upd y.2 s.σ, g', s.w⟩ y.1 v := by
    intro z hz hr
    simp only [RM.run] at hz; injection hz with hz; subst hz
    exact ⟨s.g, hi, .refl s, .refl _, hr⟩
  cases x with
  | slr b i n =>
    simp only [argR] at h
    obtain ⟨y1, h1, h⟩ := bind_some h
    obtain ⟨g', k1, k2, k3, c, hc, rc⟩ := fz_slr_rel hi hF h1 hr
    rw [hc] at h
    simp only [RM.run] at h; injection h with h; subst h
    exact ⟨g', k1, k2, k3, .p _ _ rc⟩
  | agg cs =>
    simp only [argR] at h
    obtain ⟨y1, h1, h⟩ := bind_some h
    simp only [RM.run] at h; injection h with h; subst h
    obtain ⟨g', k1, k2, k3, k4, k5⟩ := fz_rel hi hF h1 hr
    cases hr with
    | agg _ vs h1 h0 h2 => exact ⟨g', k1, k2, k3, .data _ _ k4 fun i x v hx hv => k5 i x v hx hv⟩
  | tup => simp only [argR, RM.run] at h; cases h
  | p c => exact same h hr
  | data cs => exact same h hr
  | ptr b off => exact same h hr
  | cp cs off => exact same h hr
  | ep b e i off => exact same h hr
  | fn f first caps => exact same h hr
  | unk => exact same h hr

theorem argsR_rel {σ0 : List Blk} : ∀ {xs : List AV} {s : Sn} {y : List AV × List (Nat × Blk)} {vs : List Value}, Inv s → Frz σ0 s.σ → (argsR xs).run ⟨env, σ0⟩ = some y → xs.length = vs.length →
    (∀ (i : Nat) x v, xs[i]? = some x → vs[i]? = some v → RelA s x v) →
    ∃ g', Inv ⟨upd y.2 s.σ, g', s.w⟩ ∧ Trans s ⟨upd y.2 s.σ, g', s.w⟩ ∧ Frz s.σ (upd y.2 s.σ) ∧ y.1.length = vs.length ∧
      ∀ (i : Nat) x v, y.1[i]? = some x → vs[i]? = some v → RelA ⟨upd y.2 s.σ, g', s.w⟩ x v
  | [], s, y, vs, hi, hF, h, hl, hr => by
    simp only [argsR, RM.run] at h; injection h with h; subst h
    exact ⟨s.g, hi, .refl s, .refl _, by simpa using hl, fun i c v hc => by simp at hc⟩
  | x :: xs, s, y, [], hi, hF, h, hl, hr => by simp at hl
  | x :: xs, s, y, v :: vs, hi, hF, h, hl, hr => by
    simp only [argsR] at h
    obtain ⟨y1, h1, h⟩ := bind_some h
    obtain ⟨y2, h2, h⟩ := bind_some h
    simp only [RM.run] at h; injection h with h; subst h
    obtain ⟨g1, i1, t1, f1, r1⟩ := argR_rel hi hF h1 (hr 0 x v rfl rfl)
    obtain ⟨g2, i2, t2, f2, l2, r2⟩ := argsR_rel (s := ⟨upd y1.2 s.σ, g1, s.w⟩) i1 (hF.trans f1) h2 (by simpa using hl) fun i x v hx hv => (hr (i + 1) x v (by simpa using hx) (by simpa using hv)).mono hi t1
    refine ⟨g2, by rw [upd_app]; exact i2, by rw [upd_app]; exact t1.trans t2, by rw [upd_app]; exact f1.trans f2, by simp [l2], fun i c' v' hc' hv' => ?_⟩
    rw [upd_app]
    cases i with
    | zero =>
      simp at hc' hv'; subst hc' hv'
      exact RelA.mono (s0 := ⟨upd y1.2 s.σ, g1, s.w⟩) (s := ⟨upd y2.2 (upd y1.2 s.σ), g2, s.w⟩) i1 t2 r1
    | succ i => exact r2 i c' v' (by simpa using hc') (by simpa using hv')

/-- The entry's write. -/
def BackOk (s1 : Sn) (es : List Ent) (new : Nat) (e : Ent) (x : Blk) (y : Nat × Blk) : Prop :=
  y.1 = e.id ∧ match e with
  | .whole _ => (∃ cs l, x = .box cs ∧ bk.bkL es new cs = some l ∧ y.2 = .box l) ∨ (∃ w esz rows, x = .arr w esz rows ∧ y.2 = .arr w esz rows)
  | .elem b _ i => ∃ w esz rows row', s1.σ[b]? = some (.arr w esz rows) ∧ x = .box (row'.map .p) ∧ y.2 = .arr w esz (rows.set i row')

theorem blkOut_rel {σ0 : List Blk} {ws : List (Nat × Blk)} (hσ : s.σ = upd ws σ0) {es : List Ent} {en : Ent} {x : Blk} {y : Nat × Blk} (h : (blkOut ws es new en x).run ⟨env, σ0⟩ = some y) : BackOk s es new en x y := by
  unfold blkOut at h
  split at h
  · rename_i b cs
    split at h
    · rename_i l hl
      simp only [RM.run] at h; injection h with h; subst h
      exact ⟨rfl, .inl ⟨cs, l, rfl, hl, rfl⟩⟩
    · cases h
  · simp only [RM.run] at h; injection h with h; subst h
    exact ⟨rfl, .inr ⟨_, _, _, rfl, rfl⟩⟩
  · rename_i b ext i cs
    obtain ⟨z, h1, h⟩ := bind_some h
    have hb := getB_rel h1
    rw [← hσ] at hb
    cases z with
    | arr w esz rows =>
      dsimp only at h
      split at h
      · rename_i row' hrow
        simp only [RM.run] at h; injection h with h; subst h
        exact ⟨rfl, w, esz, rows, row', hb, by rw [unp_some hrow], rfl⟩
      · cases h
    | _ => cases h
  · cases h

theorem blksOut_rel {σ0 : List Blk} {ws : List (Nat × Blk)} (hσ : s.σ = upd ws σ0) {es : List Ent} : ∀ {ens : List Ent} {xs : List Blk} {ys : List (Nat × Blk)}, (blksOut ws es new ens xs).run ⟨env, σ0⟩ = some ys →
    ens.length = ys.length ∧ ens.length ≤ xs.length ∧ ∀ (k : Nat) en x y, ens[k]? = some en → xs[k]? = some x → ys[k]? = some y → BackOk s es new en x y
  | [], xs, ys, h => by simp only [blksOut, RM.run] at h; injection h with h; subst h; exact ⟨rfl, Nat.zero_le _, fun k e x y h => by simp at h⟩
  | _ :: _, [], ys, h => by cases h
  | en :: ens, x :: xs, ys, h => by
    simp only [blksOut] at h
    obtain ⟨y, h1, h⟩ := bind_some h
    obtain ⟨l, h2, h⟩ := bind_some h
    simp only [RM.run] at h; injection h with h; subst h
    obtain ⟨k1, k2, k3⟩ := blksOut_rel hσ h2
    refine ⟨by simp [k1], by simpa using k2, fun k e' x' y' he hx hy => ?_⟩
    cases k with
    | zero => simp at he hx hy; subst he hx hy; exact blkOut_rel hσ h1
    | succ k => exact k3 k e' x' y' (by simpa using he) (by simpa using hx) (by simpa using hy)

theorem blksNew_rel {es : List Ent} : ∀ {xs : List Blk} {k0 : Nat} {ys : List (Nat × Blk)}, blksNew es new k0 xs = some ys →
    xs.length = ys.length ∧ ∀ (j : Nat) x y, xs[j]? = some x → ys[j]? = some y → y.1 = k0 + j ∧ ((∃ cs l, x = .box cs ∧ bk.bkL es new cs = some l ∧ y.2 = .box l) ∨ (∃ w esz rows, x = .arr w esz rows ∧ y.2 = .arr w esz rows))
  | [], k0, ys, h => by simp [blksNew] at h; subst h; exact ⟨rfl, fun j x y h => by simp at h⟩
  | .dead :: _, k0, ys, h => by simp [blksNew] at h
  | .box cs :: xs, k0, ys, h => by
    simp only [blksNew] at h
    split at h
    · rename_i c l hc hl
      injection h with h; subst h
      obtain ⟨k1, k2⟩ := blksNew_rel hl
      refine ⟨by simp [k1], fun j x y hx hy => ?_⟩
      cases j with
      | zero => simp at hx hy; subst hx hy; exact ⟨rfl, .inl ⟨cs, c, rfl, hc, rfl⟩⟩
      | succ j => obtain ⟨h1, h2⟩ := k2 j x y (by simpa using hx) (by simpa using hy); exact ⟨by omega, h2⟩
    · cases h
  | .arr w esz rows :: xs, k0, ys, h => by
    simp only [blksNew] at h
    split at h
    · rename_i l hl
      injection h with h; subst h
      obtain ⟨k1, k2⟩ := blksNew_rel hl
      refine ⟨by simp [k1], fun j x y hx hy => ?_⟩
      cases j with
      | zero => simp at hx hy; subst hx hy; exact ⟨rfl, .inr ⟨w, esz, rows, rfl, rfl⟩⟩
      | succ j => obtain ⟨h1, h2⟩ := k2 j x y (by simpa using hx) (by simpa using hy); exact ⟨by omega, h2⟩
    · cases h

theorem lastW_app (b : Nat) (p q : List (Nat × Blk)) : lastW b (p ++ q) = match lastW b q with
    | some y => some y
    | none => lastW b p := by
  induction p with
  | nil => simp [lastW]; cases lastW b q <;> rfl
  | cons x p ih =>
    obtain ⟨c, z⟩ := x
    simp only [List.cons_append, lastW, ih]
    cases lastW b q <;> rfl

theorem lastW_at {b : Nat} {x : Blk} : ∀ {ws : List (Nat × Blk)}, (ws.map (·.1)).Nodup → ∀ {k : Nat}, ws[k]? = some (b, x) → lastW b ws = some x
  | [], _, k, h => by simp at h
  | (c, z) :: r, hn, k, h => by
    obtain ⟨h1, h2⟩ := List.nodup_cons.1 hn
    simp only [lastW]
    cases k with
    | zero =>
      simp at h
      obtain ⟨rfl, rfl⟩ := h
      rw [lastW_none h1]; simp
    | succ k => rw [lastW_at h2 (k := k) (by simpa using h)]

theorem nodup_shift (n k : Nat) : ((List.range k).map (n + ·)).Nodup := by
  rw [List.Nodup, List.pairwise_map]
  exact (List.nodup_range (n := k)).imp fun h e => h (by omega)

/-- An operation that calls f. -/
theorem call_ok (hF : SoundF P F) (hi : Inv s) {f : FuncId} {args : List AV} {k : Nat} {vals : Array Value} (hdead : ∀ j, j < k → s.σ[new + j]? = some .dead)
    (h : (callR F f args k new).run ⟨env, s.σ⟩ = some e) (hl : args.length = vals.size) (hr : ∀ (i : Nat) x v, args[i]? = some x → vals[i]? = some v → RelA s x v)
    (hex : ∀ fn, P.funcs[f]? = some fn → fn.body.isSome = true → (fn.name == "runtime.NumGoroutine") = false → (execOp a.eval o).run P s.w = .ok (.enter f vals) s.w) : OpOk P o a s e := by
  unfold callR at h
  obtain ⟨ar, h1, h⟩ := bind_some h
  obtain ⟨es1, h2, h⟩ := bind_some h
  obtain ⟨es, h3, h⟩ := bind_some h
  split at h
  · rename_i hnd
    split at h
    · cases h
    · rename_i args' hren
      obtain ⟨blks, h4, h⟩ := bind_some h
      split at h
      · cases h
      · rename_i r hres
        split at h
        · rename_i hlen
          split at h
          · rename_i v fresh hv hfresh
            obtain ⟨back, h5, h⟩ := bind_some h
            simp only [RM.run] at h; injection h with h; subst h
            obtain ⟨g1, i1, t1, f1, l1, r1⟩ := argsR_rel (vs := vals.toList) hi (.refl _) h1 (by simpa using hl) (fun i x v hx hv => hr i x v hx (by simpa using hv))
            let s1 : Sn := ⟨upd ar.2 s.σ, g1, s.w⟩
            obtain ⟨bl, hblk⟩ := blksIn_rel (s := s1) rfl h4
            have cin : CallIn s1 es blks := ⟨i1, nodupB_iff hnd, bl, hblk⟩
            obtain ⟨⟨fn, hfn, hbody, hname⟩, hcall⟩ := hF f args' blks r hres
            obtain ⟨q1, q2⟩ := renL_some hren
            have ci := in_inv cin
            have hc := hcall (inSn s1 es blks).g s.w vals ci (by rw [← q1, l1]; simp) (fun i x v hx hv => by
              have hlt := lt_of_get hx
              have hx0 : ar.1[i]? = some (ar.1[i]'(by omega)) := List.getElem?_eq_getElem _
              exact in_rel cin (r1 i _ v hx0 (by simpa using hv)) (q2 i _ x hx0 hx))
            intro next Q hnext
            simp only [Oper.wp, hex fn hfn hbody hname, Oper.upon]
            refine hc.mono ?_
            rintro e w' ⟨rv, g', rfl, inv', trans', rel'⟩
            simp only
            obtain ⟨b1, b2, b3⟩ := blksOut_rel (s := s1) rfl h5
            obtain ⟨n1, n2⟩ := blksNew_rel hfresh
            have hdead1 : ∀ j, j < k → s1.σ[new + j]? = some .dead := fun j hj => f1.2 _ _ (hdead j hj) (by simp)
            have hkf : (r.2.drop es.length).length = k := by simp; omega
            have hbid : back.map (·.1) = es.map Ent.id := by
              apply List.ext_getElem?
              intro i
              rw [List.getElem?_map, List.getElem?_map]
              by_cases hlt : i < es.length
              · have e1 : es[i]? = some es[i] := List.getElem?_eq_getElem hlt
                have e2 : back[i]? = some (back[i]'(by omega)) := List.getElem?_eq_getElem _
                have e3 : r.2[i]? = some (r.2[i]'(by omega)) := List.getElem?_eq_getElem _
                have := (b3 i _ _ _ e1 e3 e2).1
                rw [e1, e2]; simp [this]
              · rw [List.getElem?_eq_none (by omega), List.getElem?_eq_none (by omega)]; rfl
            have hfid : ∀ j, j < k → fresh[j]? = some (new + j, (fresh[j]?.map (·.2)).getD .dead) := by
              intro j hj
              have e1 : fresh[j]? = some (fresh[j]'(by omega)) := List.getElem?_eq_getElem _
              have e2 : (r.2.drop es.length)[j]? = some ((r.2.drop es.length)[j]'(by omega)) := List.getElem?_eq_getElem _
              have := (n2 j _ _ e2 e1).1
              rw [e1]; simp [← this]
            have hfnd : (fresh.map (·.1)).Nodup := by
              have : fresh.map (·.1) = (List.range k).map (new + ·) := by
                apply List.ext_getElem?
                intro j
                by_cases hj : j < k
                · rw [List.getElem?_map, hfid j hj, List.getElem?_map, List.getElem?_range hj]; rfl
                · rw [List.getElem?_eq_none (by simp; omega), List.getElem?_eq_none (by simp; omega)]
              rw [this]
              exact nodup_shift new k
            have hfmem : ∀ b, b ∈ fresh.map (·.1) ↔ new ≤ b ∧ b < new + k := by
              intro b
              constructor
              · intro hm
                obtain ⟨j, hj⟩ := List.getElem?_of_mem hm
                have hlt := lt_of_get hj
                simp at hlt
                rw [List.getElem?_map, hfid j (by omega)] at hj
                simp at hj; omega
              · intro hm
                have := hfid (b - new) (by omega)
                rw [show new + (b - new) = b by omega] at this
                exact List.mem_map.2 ⟨_, mem_of_get this, rfl⟩
            have hlenσ : (upd (back ++ fresh) s1.σ).length = s1.σ.length := upd_len _ _
            -- what the writes leave
            have liveE : ∀ {k0 : Nat} {en : Ent}, es[k0]? = some en → en.id < s1.σ.length ∧ ¬ (new ≤ en.id ∧ en.id < new + k) := by
              intro k0 en he
              obtain ⟨x, _, hin⟩ := in_at cin he
              have hy : ∃ y, s1.σ[en.id]? = some y ∧ y ≠ .dead := by
                cases en with
                | whole b =>
                  rcases hin with ⟨cs', l, h1, h2, rfl⟩ | ⟨w, esz', rows', h1, rfl⟩
                  · exact ⟨_, h1, by simp⟩
                  · exact ⟨_, h1, by simp⟩
                | elem b ext i =>
                  obtain ⟨esz', rows', row, h1, h2, h3, rfl⟩ := hin
                  exact ⟨_, h1, by simp⟩
              obtain ⟨y, hy, hd⟩ := hy
              refine ⟨lt_of_get hy, fun hm => ?_⟩
              have := hdead1 (en.id - new) (by omega)
              rw [show new + (en.id - new) = en.id by omega, hy] at this
              injection this with this; exact hd this
            have getE : ∀ {k0 : Nat} {en : Ent} {y : Nat × Blk}, es[k0]? = some en → back[k0]? = some y → (upd (back ++ fresh) s1.σ)[en.id]? = some y.2 := by
              intro k0 en y he hy
              obtain ⟨hlt, hnf⟩ := liveE he
              have e3 : r.2[k0]? = some (r.2[k0]'(by have := lt_of_get he; omega)) := List.getElem?_eq_getElem _
              have hid := (b3 k0 en _ y he e3 hy).1
              rw [upd_get _ _ _ hlt, lastW_app, lastW_none (by rw [hfmem]; exact hnf)]
              simp only
              rw [lastW_at (x := y.2) (by rw [hbid]; exact cin.nodup) (k := k0) (by rw [hy, ← hid])]
            have getN : ∀ {j : Nat} {y : Nat × Blk}, j < k → fresh[j]? = some y → (upd (back ++ fresh) s1.σ)[new + j]? = some y.2 := by
              intro j y hj hy
              have hlt := lt_of_get (hdead1 j hj)
              have e2 : (r.2.drop es.length)[j]? = some ((r.2.drop es.length)[j]'(by omega)) := List.getElem?_eq_getElem _
              have hid := (n2 j _ _ e2 hy).1
              rw [upd_get _ _ _ hlt, lastW_app, lastW_at (x := y.2) hfnd (k := j) (by rw [hy, ← hid])]
            have co : CallOut s1 es blks new k ⟨r.2, g', w'⟩ (upd (back ++ fresh) s1.σ) := by
              refine ⟨cin, inv', trans', hlen, hlenσ, hdead1, fun k0 y hy => ?_, fun b hb1 hb2 => ?_⟩
              · have hy : r.2[k0]? = some y := hy
                unfold OutOk
                cases he : es[k0]? with
                | some en =>
                  have hlt := lt_of_get he
                  have e2 : back[k0]? = some (back[k0]'(by omega)) := List.getElem?_eq_getElem _
                  obtain ⟨hid, hbk⟩ := b3 k0 en y _ he hy e2
                  have hg := getE he e2
                  cases en with
                  | whole b =>
                    rcases hbk with ⟨cs, l, e1, e3, e4⟩ | ⟨w, esz, rows, e1, e4⟩
                    · exact .inl ⟨cs, l, e1, e3, by rw [← e4]; exact hg⟩
                    · exact .inr ⟨w, esz, rows, e1, by rw [← e4]; exact hg⟩
                  | elem b ext i =>
                    obtain ⟨w, esz, rows, row', e1, e3, e4⟩ := hbk
                    exact ⟨w, esz, rows, row', e1, e3, by rw [← e4]; exact hg⟩
                | none =>
                  have hge : es.length ≤ k0 := by
                    rcases Nat.lt_or_ge k0 es.length with hlt | hge
                    · rw [List.getElem?_eq_getElem hlt] at he; cases he
                    · exact hge
                  have hlt := lt_of_get hy
                  have e2 : fresh[k0 - es.length]? = some (fresh[k0 - es.length]'(by omega)) := List.getElem?_eq_getElem _
                  have e3 : (r.2.drop es.length)[k0 - es.length]? = some y := by rw [List.getElem?_drop, ← hy]; congr 1; omega
                  obtain ⟨hid, hbk⟩ := n2 _ _ _ e3 e2
                  have hg := getN (j := k0 - es.length) (by omega) e2
                  rcases hbk with ⟨cs, l, e1, e5, e4⟩ | ⟨w, esz, rows, e1, e4⟩
                  · exact .inl ⟨cs, l, e1, e5, by rw [← e4]; exact hg⟩
                  · exact .inr ⟨w, esz, rows, e1, by rw [← e4]; exact hg⟩
              · by_cases hlt : b < s1.σ.length
                · rw [upd_get _ _ _ hlt, lastW_none]
                  rw [List.map_append, List.mem_append, hbid, hfmem]
                  rintro (h | h)
                  · exact hb1 h
                  · omega
                · rw [List.getElem?_eq_none (by omega), List.getElem?_eq_none (by omega)]
            have oi := out_inv co
            have ot := out_trans co
            have hupd : upd (ar.2 ++ back ++ fresh) s.σ = upd (back ++ fresh) s1.σ := by rw [List.append_assoc, upd_app]
            refine hnext rv w' (outSn s1 es new k ⟨r.2, g', w'⟩ (upd (back ++ fresh) s1.σ)).g ?_ ?_ ?_
            · rw [hupd]; exact oi
            · rw [hupd]; exact t1.trans ot
            · rw [hupd]; exact out_rel co rel' hv
          · cases h
        · cases h
  · cases h

theorem run_callFunc {f : FuncId} {args : Array Value} {fn : Func} (h1 : P.funcs[f]? = some fn) (h2 : fn.body.isSome = true) (h3 : (fn.name == "runtime.NumGoroutine") = false) (w : World) :
    (callFunc f args).run P w = .ok (.enter f args) w := by
  have h3' : fn.name ≠ "runtime.NumGoroutine" := by simpa using h3
  have h4 : fn.body ≠ none := by intro h; rw [h] at h2; cases h2
  simp [callFunc, h1, h3', h4]

theorem ok_call (hF : SoundF P F) (hi : Inv s) (he : EnvRel s a.tmps env) {f args k} (hdead : ∀ j, j < k → s.σ[new + j]? = some .dead) (h : (opR F (.call f args k) new).run ⟨env, s.σ⟩ = some e)
    (hc : chkOp P (.call f args k) o.op = true) : OpOk P o a s e := by
  simp only [opR] at h
  obtain ⟨vs, h1, h'⟩ := bind_some h
  clear h
  unfold chkOp at hc
  simp only at hc
  split at hc
  · rename_i c hop
    split at hc
    · rename_i g hcal
      simp only [Bool.and_eq_true, beq_iff_eq] at hc
      obtain ⟨rfl, hargs⟩ := hc
      obtain ⟨l, r⟩ := evs_rel he h1 hargs
      refine call_ok hF hi hdead h' (vals := c.args.map a.eval) (by simpa using l) (fun i x v hx hv => r i x v hx (by simpa using hv)) fun fn g1 g2 g3 => ?_
      simp [execOp, hop, resolve, hcal, Act.eval, Deferred.ofValue, invoke, run_callFunc g1 g2 g3]
    · cases hc
  · cases hc

theorem ok_callv (hF : SoundF P F) (hi : Inv s) (he : EnvRel s a.tmps env) {x args k} (hdead : ∀ j, j < k → s.σ[new + j]? = some .dead) (h : (opR F (.callv x args k) new).run ⟨env, s.σ⟩ = some e)
    (hc : chkOp P (.callv x args k) o.op = true) : OpOk P o a s e := by
  simp only [opR] at h
  obtain ⟨u, h0, h'⟩ := bind_some h
  clear h
  unfold chkOp at hc
  simp only at hc
  split at hc
  · rename_i c hop
    split at hc
    · rename_i y hcal
      simp only [Bool.and_eq_true] at hc
      obtain ⟨hx, hargs⟩ := hc
      have rx := ev_rel he h0 hx
      cases u with
      | fn f first caps =>
        dsimp only at h'
        obtain ⟨vs, h1, h''⟩ := bind_some h'
        obtain ⟨l, r⟩ := evs_rel he h1 hargs
        generalize hz : a.eval y = z at rx
        cases rx with
        | fn _ _ _ fs cs p1 p2 p3 p4 =>
          have l' : vs.length = c.args.size := by simpa using l
          refine call_ok hF hi hdead h'' (vals := fs ++ c.args.map a.eval ++ cs) (by simp; omega) (fun i x v hx hv => ?_) fun fn g1 g2 g3 => ?_
          · rcases get_app hx with hx | ⟨hge, hx⟩
            · have hlt := lt_of_get hx
              rw [Array.getElem?_append_left (by simp at hlt ⊢; omega)] at hv
              rcases get_app hx with hx | ⟨hge, hx⟩
              · have hlt := lt_of_get hx
                rw [Array.getElem?_append_left (by omega)] at hv
                exact p3 i x v hx hv
              · rw [Array.getElem?_append_right (by omega)] at hv
                exact r _ x v hx (by rw [← p1] at hv; simpa using hv)
            · rw [Array.getElem?_append_right (by simp at hge ⊢; omega)] at hv
              refine p4 _ x v hx ?_
              rw [← hv]; congr 1; simp; omega
          · simp [execOp, hop, resolve, hcal, hz, Deferred.ofValue, invoke, run_callFunc g1 g2 g3]
      | _ => cases h'
    · cases hc
  · cases hc

end
end Go.Am
end

section
namespace Go.Am

theorem dead_of {new : Nat} {env : List (Nat × AV)} {σ : List Blk} : ∀ {k new : Nat} {u : Unit}, (deadR new k).run ⟨env, σ⟩ = some u → ∀ j, j < k → σ[new + j]? = some .dead
  | 0, _, _, _, j, hj => by omega
  | k + 1, new, u, h, j, hj => by
    simp only [deadR, RM.run] at h
    split at h
    · rename_i x hx
      cases x with
      | dead =>
        dsimp only at h
        cases j with
        | zero => exact hx
        | succ j => have := dead_of (new := 0) h j (by omega); rw [show new + (j + 1) = new + 1 + j by omega]; exact this
      | box => cases h
      | arr => cases h
    · cases h

section
variable {P : Program} {F : Orc} {s : Sn} {a : Act} {env : List (Nat × AV)} {o : Oper} {new : Nat} {e : Eff}

theorem op_ok (hF : SoundF P F) (hi : Inv s) (he : EnvRel s a.tmps env) {ao : AOp} (h : (opD F ao new).run ⟨env, s.σ⟩ = some e) (hc : chkOp P ao o.op = true) : OpOk P o a s e := by
  unfold opD at h
  obtain ⟨u, hd, h⟩ := bind_some h
  have hdead := dead_of (new := 0) hd
  clear hd
  have d1 : newOf ao = 1 → s.σ[new]? = some .dead := fun h1 => hdead 0 (by omega)
  cases ao with
  | mv x => exact ok_mv hi he h hc
  | mkarr esz x => exact ok_mkarr hi (d1 rfl) h hc
  | pick => exact ok_pick hi he h hc
  | newbox => exact ok_newbox hi (d1 rfl) h hc
  | box => exact ok_box hi he (d1 rfl) h hc
  | build => exact ok_build hi he h hc
  | lits => exact ok_lits hi he (fun e => d1 (by simp [newOf, e])) h hc
  | load => exact ok_load hi he h hc
  | store => exact ok_store hi he h hc
  | nilchk => exact ok_nilchk hi he h hc
  | bin op t x y =>
    cases t with
    | plain => exact ok_bin_plain hi he h hc
    | bool => exact ok_bin_bool hi he h hc
    | flat => exact ok_bin_flat hi he h hc
    | nils => exact ok_bin_nils hi he h hc
    | nilp => exact ok_bin_nilp hi he h hc
    | nilf => exact ok_bin_nilf hi he h hc
  | un => exact ok_un hi he h hc
  | conv k x =>
    cases k with
    | toBytes own => exact ok_toBytes hi he (fun e => d1 (by simp [newOf, e])) h hc
    | _ => exact ok_conv hi he (by simp) h hc
  | mkslice => exact ok_mkslice hi he (fun e => d1 (by simp [newOf, e])) h hc
  | slice => exact ok_slice hi he h hc
  | faddr => exact ok_faddr hi he h hc
  | field => exact ok_field hi he h hc
  | iaddr => exact ok_iaddr hi he h hc
  | aaddr => exact ok_aaddr hi he h hc
  | sidx => exact ok_sidx hi he h hc
  | aidx => exact ok_aidx hi he h hc
  | extr => exact ok_extr hi he h hc
  | call => exact ok_call hF hi he hdead h hc
  | callv => exact ok_callv hF hi he hdead h hc
  | len => exact ok_len hi he h hc
  | alen => exact ok_alen hi h hc
  | app => exact ok_app hi he h hc
  | appn => exact ok_appn hi he (d1 rfl) h hc
  | mm => exact ok_mm hi he h hc
  | mkfn => exact ok_mkfn hi he h hc

end

/-- The operation's text. -/
def chkIns (P : Program) (N : Nat) (ops : Array Oper) (i : AIns) (o : Oper) : Bool :=
  chkOp P i.op o.op && i.dst == o.dst && (match i.dst with
    | some d => decide (d < N)
    | none => true) && (match i.g, o.guard with
    | none, none => true
    | some (g, w), some (j, w') => w == w' && (ops[j]?).bind (·.dst) == some g
    | _, _ => false)

/-- The abstract state of a running function that began at E. -/
def Sim (N : Nat) (E : Sn) (st : St) (a : Act) (w : World) : Prop :=
  a.tmps.size = N ∧ a.defers = [] ∧ ∃ g, Inv ⟨st.sto, g, w⟩ ∧ EnvRel ⟨st.sto, g, w⟩ a.tmps st.env ∧ Trans E ⟨st.sto, g, w⟩

theorem EnvRel.put {s : Sn} {tmps : Array Value} {env : List (Nat × AV)} (he : EnvRel s tmps env) {d : Nat} (hd : d < tmps.size) {x : AV} {v : Value} (hv : RelA s x v) :
    EnvRel s (tmps.setIfInBounds d v) ((d, x) :: env) := by
  intro n y hy
  simp only [lk] at hy
  split at hy
  · rename_i hn
    injection hy with hy; subst hy hn
    exact ⟨v, by simp [hd], hv⟩
  · rename_i hn
    obtain ⟨u, h1, h2⟩ := he n y hy
    exact ⟨u, by rw [Array.getElem?_setIfInBounds_ne (Ne.symm hn)]; exact h1, h2⟩

theorem Sim.putd {N : Nat} {E : Sn} {st : St} {a : Act} {w w' : World} {g g' : Gh} {e : Eff} {v : Value} {d : Option Nat}
    (h1 : a.tmps.size = N) (h2 : a.defers = []) (hi : Inv ⟨st.sto, g, w⟩) (he : EnvRel ⟨st.sto, g, w⟩ a.tmps st.env) (ht : Trans E ⟨st.sto, g, w⟩) (hd : ∀ x, d = some x → x < N)
    (hi' : Inv ⟨upd e.ws st.sto, g', w'⟩) (ht' : Trans ⟨st.sto, g, w⟩ ⟨upd e.ws st.sto, g', w'⟩) (hv : RelA ⟨upd e.ws st.sto, g', w'⟩ e.val v) :
    Sim N E (Am.put d e st) (a.put d v) w' := by
  have he' := he.mono hi ht'
  cases d with
  | none => exact ⟨h1, h2, g', hi', he', ht.trans ht'⟩
  | some d => exact ⟨by simp [Act.put, h1], h2, g', hi', he'.put (by rw [h1]; exact hd d rfl) hv, ht.trans ht'⟩

section
variable {P : Program} {F : Orc} {N : Nat} {E : Sn} {st : St} {a : Act} {w : World} {ops : Array Oper} {i : AIns} {o : Oper} {e : Eff} {new k : Nat} {Q : Exit → Act → World → Prop} {K : Act → World → Prop}

theorem tup0_undef {s : Sn} : RelA s undefV undef := .tup _ _ rfl fun i x v h => by simp at h

theorem ins_ok (hF : SoundF P F) (hs : Sim N E st a w) (ho : ops[k]? = some o) (hc : chkIns P N ops i o = true) (h : (insR F i new).run st = some e)
    (next : ∀ a' w', Sim N E (Am.put i.dst e st) a' w' → K a' w') : wpOp P ops Q k K a w := by
  obtain ⟨h1, h2, g, hi, he, ht⟩ := hs
  simp only [chkIns, Bool.and_eq_true, beq_iff_eq] at hc
  obtain ⟨⟨⟨hc, hd⟩, hdn⟩, hg⟩ := hc
  have hd' : ∀ x, i.dst = some x → x < N := by
    intro x hx; rw [hx] at hdn; simpa using hdn
  have run : ∀ {e : Eff}, (opD F i.op new).run st = some e → (∀ a' w', Sim N E (Am.put i.dst e st) a' w' → K a' w') → o.wp P a w K Q := by
    intro e h next
    refine op_ok (s := ⟨st.sto, g, w⟩) (env := st.env) hF hi he h hc K Q fun v w' g' hi' ht' hv => next _ _ ?_
    rw [← hd]
    exact Sim.putd h1 h2 hi he ht hd' hi' ht' hv
  have skip : (∀ a' w', Sim N E (Am.put i.dst ⟨undefV, []⟩ st) a' w' → K a' w') → K (a.put o.dst undef) w := by
    intro next
    refine next _ _ ?_
    rw [← hd]
    exact Sim.putd (e := ⟨undefV, []⟩) h1 h2 hi he ht hd' hi (.refl _) tup0_undef
  unfold wpOp
  rw [ho]
  dsimp only
  unfold insR at h
  cases hig : i.g with
  | none =>
    rw [hig] at h hg
    cases hog : o.guard with
    | some x => rw [hog] at hg; cases hg
    | none =>
      have hw : Region.wanted o (yielded ops a.tmps) = true := by simp [Region.wanted, hog]
      rw [if_pos hw]
      exact .inl (run h next)
  | some gw =>
    obtain ⟨gs, want⟩ := gw
    rw [hig] at h hg
    cases hog : o.guard with
    | none => rw [hog] at hg; cases hg
    | some x =>
      obtain ⟨j, want'⟩ := x
      rw [hog] at hg
      simp only [Bool.and_eq_true, beq_iff_eq] at hg
      obtain ⟨rfl, hj⟩ := hg
      simp only [RM.run] at h
      split at h
      · rename_i v hv
        obtain ⟨u, hu, hr⟩ := he _ _ hv
        split at h
        · rename_i b
          cases hr with
          | p _ _ hr =>
            cases hr with
            | b x =>
              have hy : yielded ops a.tmps j = some b := by simp [yielded, hj, hu]
              by_cases hb : b = want
              · have hw : Region.wanted o (yielded ops a.tmps) = true := by simp [Region.wanted, hog, hy, hb]
                rw [if_pos hw]
                rw [if_pos hb] at h
                exact .inl (run h next)
              · have hw : Region.wanted o (yielded ops a.tmps) = false := by simp [Region.wanted, hog, hy, hb]
                rw [if_neg (by rw [hw]; simp)]
                rw [if_neg hb] at h
                simp only [RM.run] at h; injection h with h; subst h
                exact skip next
        · cases hr with
          | tup _ vs hl _ =>
            have hvs : vs = #[] := by
              have : vs.size = 0 := by simpa using hl.symm
              simpa using this
            subst hvs
            have hy : yielded ops a.tmps j = none := by simp [yielded, hj, hu]
            have hw : Region.wanted o (yielded ops a.tmps) = false := by simp [Region.wanted, hog, hy]
            rw [if_neg (by rw [hw]; simp)]
            simp only [RM.run] at h; injection h with h; subst h
            exact skip next
        · cases h
      · cases h

end

/-! ### Room -/

theorem room_get {σ : List Blk} {n b : Nat} {x : Blk} (h : (σ ++ List.replicate n Blk.dead)[b]? = some x) (hx : x ≠ .dead) : σ[b]? = some x := by
  rcases Nat.lt_or_ge b σ.length with hlt | hge
  · rwa [List.getElem?_append_left hlt] at h
  · rw [List.getElem?_append_right hge, List.getElem?_replicate] at h
    split at h
    · injection h with h; exact absurd h.symm hx
    · cases h

theorem room_get' {σ : List Blk} {n b : Nat} {x : Blk} (h : σ[b]? = some x) : (σ ++ List.replicate n Blk.dead)[b]? = some x := by
  rw [List.getElem?_append_left (lt_of_get h)]; exact h

theorem room_wr {σ : List Blk} {g : Gh} {w : World} {n b r o : Nat} : Wr1 ⟨σ ++ List.replicate n .dead, g, w⟩ b r o ↔ Wr1 ⟨σ, g, w⟩ b r o := by
  unfold Wr1
  constructor
  · intro h
    dsimp only at h ⊢
    cases hb : (σ ++ List.replicate n Blk.dead)[b]? with
    | none => rw [hb] at h; exact h.elim
    | some x =>
      cases x with
      | dead => rw [hb] at h; exact h.elim
      | box cs => rw [room_get hb (by simp)]; rw [hb] at h; exact h
      | arr wm esz rows => rw [room_get hb (by simp)]; rw [hb] at h; exact h
  · intro h
    dsimp only at h ⊢
    cases hb : σ[b]? with
    | none => rw [hb] at h; exact h.elim
    | some x => rw [room_get' hb]; rw [hb] at h; exact h

theorem room_trans {σ : List Blk} {g : Gh} {w : World} {n : Nat} : Trans ⟨σ, g, w⟩ ⟨σ ++ List.replicate n .dead, g, w⟩ where
  keep := .refl _ _
  cmono _ _ h := h
  cnew _ _ h := .inl h
  wnew _ _ h := let ⟨b, hb⟩ := h; .inl ⟨b, room_wr.1 hb⟩
  len := by simp
  box b cs h := ⟨⟨cs, room_get' h, rfl⟩, rfl⟩
  arr b wm esz rows h := ⟨wm, rows, room_get' h, id, Nat.le_refl _, fun _ => rfl⟩

theorem room_inv {σ : List Blk} {g : Gh} {w : World} {n : Nat} (hi : Inv ⟨σ, g, w⟩) : Inv ⟨σ ++ List.replicate n .dead, g, w⟩ := by
  have t := room_trans (σ := σ) (g := g) (w := w) (n := n)
  refine ⟨fun b cs h => ?_, fun b wm esz rows h => ?_, fun b1 b2 r o h1 h2 => hi.apart b1 b2 r o (room_wr.1 h1) (room_wr.1 h2), fun r o hc => ⟨(hi.const r o hc).1, fun b hb => (hi.const r o hc).2 b (room_wr.1 hb)⟩⟩
  · obtain ⟨r, o, c, e, fz, q1, q2, q3, q4, q5⟩ := hi.box b cs (room_get h (by simp))
    exact ⟨r, o, c, e, fz, q1, q2, q3, fun i x hx => let ⟨v, k1, k2, k3⟩ := q4 i x hx; ⟨v, k1, k2.mono hi t, k3⟩, q5⟩
  · exact hi.arr b wm esz rows (room_get h (by simp))

theorem Sim.room {N : Nat} {E : Sn} {st : St} {a : Act} {w : World} (h : Sim N E st a w) (n : Nat) : Sim N E ⟨st.env, room n st.sto⟩ a w := by
  unfold Am.room
  split
  · exact h
  · obtain ⟨h1, h2, g, hi, he, ht⟩ := h
    exact ⟨h1, h2, g, room_inv hi, he.mono hi room_trans, ht.trans room_trans⟩

theorem Sim.heap {N : Nat} {E : Sn} {st : St} {a : Act} {w w' : World} (h : Sim N E st a w) (hh : w'.heap = w.heap) (ho : w'.os = w.os) (hp : w'.output = w.output) : Sim N E st a w' := by
  obtain ⟨h1, h2, g, hi, he, ht⟩ := h
  obtain ⟨i', t'⟩ := same_heap hi hh ho hp
  exact ⟨h1, h2, g, i', he.mono hi t', ht.trans t'⟩

theorem Sim.congr {N : Nat} {E : Sn} {st st' : St} {a : Act} {w : World} (h : Sim N E st a w) (he : ∀ m, lk m st'.env = lk m st.env) (hs : st'.sto = st.sto) : Sim N E st' a w := by
  obtain ⟨h1, h2, g, hi, hr, ht⟩ := h
  refine ⟨h1, h2, g, ?_⟩
  rw [hs]
  exact ⟨hi, fun n x hx => hr n x (by rw [← he]; exact hx), ht⟩

end Go.Am
end

section
namespace Go.Am

def chkAll (P : Program) (N : Nat) (ops : Array Oper) : List AIns → List Oper → Bool
  | [], [] => true
  | i :: r, o :: q => chkIns P N ops i o && chkAll P N ops r q
  | _, _ => false

def slotsApart (x y : AIns) : Bool :=
  (match x.dst with
  | none => true
  | some m => y.dst != some m && !(slotsIns y).contains m) && (match y.dst with
  | none => true
  | some m => !(slotsIns x).contains m)

def memApart (x y : AIns) : Bool := (!memW x.op || !memT y.op) && (!memW y.op || !memT x.op)

/-- Each number once. -/
def onceG : List Nat → List Nat → List Nat
  | [], acc => acc
  | x :: r, acc => match acc.contains x with
    | true => onceG r acc
    | false => onceG r (x :: acc)

theorem mem_onceG {i : Nat} : ∀ {l acc : List Nat}, i ∈ onceG l acc → i ∈ l ∨ i ∈ acc
  | [], _, h => .inr h
  | x :: r, acc, h => by
    simp only [onceG] at h
    split at h
    · exact (mem_onceG h).imp (List.mem_cons_of_mem _) id
    · rcases mem_onceG h with h | h
      · exact .inl (List.mem_cons_of_mem _ h)
      · rcases List.mem_cons.1 h with rfl | h
        · exact .inl List.mem_cons_self
        · exact .inr h

def onceL (l : List Nat) : List Nat := onceG l []

theorem mem_once {i : Nat} {l : List Nat} (h : i ∈ onceL l) : i ∈ l := (mem_onceG h).resolve_right (by simp)

def befOne (acc : List (List Nat)) (o : Oper) : List Nat := onceL <| (o.after.toList.filter fun e => Region.binds .any e).flatMap fun e => e.on :: (acc[e.on]?).getD []

def befGo (acc : List (List Nat)) : List Oper → List (List Nat)
  | [] => acc
  | o :: r => befGo (acc ++ [befOne acc o]) r

/-- x stands at i, y at j, i < j. -/
def chkPair (bef : List (List Nat)) (pairs : List (Nat × Nat)) (i j : Nat) (x y : AIns) : Bool :=
  ((bef[j]?).getD []).contains i || (slotsApart x y && (memApart x y || pairs.contains (i, j)))

def chkPairs (bef : List (List Nat)) (pairs : List (Nat × Nat)) (j : Nat) (y : AIns) : Nat → List AIns → Bool
  | _, [] => true
  | i, x :: r => (decide (j ≤ i) || chkPair bef pairs i j x y) && chkPairs bef pairs j y (i + 1) r

def chkDraw (bef : List (List Nat)) (pairs : List (Nat × Nat)) (all : List AIns) : Nat → List AIns → Bool
  | _, [] => true
  | j, y :: r => chkPairs bef pairs j y 0 all && chkDraw bef pairs all (j + 1) r

def chkEdges : Nat → List Oper → Bool
  | _, [] => true
  | j, o :: r => (o.after.all fun e => !Region.binds .any e || decide (e.on < j)) && chkEdges (j + 1) r

def chkReg (P : Program) (N : Nat) (draw : Bool) (pairs : List (Nat × Nat)) (ins : List AIns) (ops : Array Oper) : Bool :=
  chkAll P N ops ins ops.toList && (!draw || (chkEdges 0 ops.toList && chkDraw (befGo [] ops.toList) pairs ins 0 ins))

section
variable {P : Program} {F : Orc} {N : Nat} {E : Sn} {st st' : St} {a : Act} {w : World} {ops : Array Oper} {Q : Exit → Act → World → Prop}

theorem chkAll_at : ∀ {ins : List AIns} {os : List Oper}, chkAll P N ops ins os = true → ins.length = os.length ∧ ∀ (k : Nat) i, ins[k]? = some i → ∃ o, os[k]? = some o ∧ chkIns P N ops i o = true
  | [], [], _ => ⟨rfl, fun k i h => by simp at h⟩
  | i :: r, o :: q, h => by
    simp only [chkAll, Bool.and_eq_true] at h
    obtain ⟨h1, h2⟩ := chkAll_at h.2
    refine ⟨by simp [h1], fun k x hx => ?_⟩
    cases k with
    | zero => simp at hx; subst hx; exact ⟨o, rfl, h.1⟩
    | succ k => exact h2 k x (by simpa using hx)
  | [], _ :: _, h => by simp [chkAll] at h
  | _ :: _, [], h => by simp [chkAll] at h

theorem runIns_ok (hF : SoundF P F) : ∀ {r : List AIns} {k new : Nat} {st : St} {a : Act} {w : World}, (∀ (j : Nat) i, r[j]? = some i → ∃ o, ops[k + j]? = some o ∧ chkIns P N ops i o = true) →
    runIns F r new st = some st' → Sim N E st a w → (∀ a' w', Sim N E st' a' w' → Q .normal a' w') → wpOps P ops Q (List.range' k r.length) a w
  | [], k, new, st, a, w, _, h, hs, next => by
    simp only [runIns] at h; injection h with h; subst h
    exact next a w hs
  | i :: r, k, new, st, a, w, hc, h, hs, next => by
    simp only [runIns] at h
    split at h
    · rename_i e he
      obtain ⟨o, ho, hco⟩ := hc 0 i rfl
      rw [List.length_cons, List.range'_succ, wpOps_cons]
      refine ins_ok hF hs ho hco he fun a' w' hs' => ?_
      refine runIns_ok hF (fun j i hj => ?_) h hs' next
      obtain ⟨o, ho, hco⟩ := hc (j + 1) i (by simpa using hj)
      exact ⟨o, by rw [← ho]; congr 1; omega, hco⟩
    · cases h

/-! ### Any order -/

theorem run_ex : ∀ {ins : List AIns} {new0 : Nat} {st : St}, runIns F ins new0 st = some st' →
    ∃ (new : Nat → Nat) (S : Nat → St) (eff : Nat → Eff), Run F ins new S eff ∧ S 0 = st ∧ S ins.length = st'
  | [], new0, st, h => by
    simp only [runIns] at h; injection h with h; subst h
    exact ⟨fun _ => 0, fun _ => st, fun _ => ⟨undefV, []⟩, ⟨fun k i h => by simp at h⟩, rfl, rfl⟩
  | i :: r, new0, st, h => by
    simp only [runIns] at h
    split at h
    · rename_i e he
      obtain ⟨new, S, eff, hr, h0, hl⟩ := run_ex h
      refine ⟨fun | 0 => new0 | k + 1 => new k, fun | 0 => st | k + 1 => S k, fun | 0 => e | k + 1 => eff k, ⟨fun k x hx => ?_⟩, rfl, hl⟩
      cases k with
      | zero => simp at hx; subst hx; exact ⟨he, h0⟩
      | succ k => exact hr.step k x (by simpa using hx)
    · cases h

theorem log_ex : ∀ {ins : List AIns} {new0 : Nat} {st : St} {l l' : Log}, runLog F ins new0 st l = some (st', l') →
    ∃ (new : Nat → Nat) (S : Nat → St) (eff : Nat → Eff), Run F ins new S eff ∧ S 0 = st ∧ S ins.length = st' ∧
      (∀ k, k < l.length → l'[k]? = l[k]?) ∧ ∀ (k : Nat) i, ins[k]? = some i → l'[l.length + k]? = some (blksOf ((insR F i (new k)).reads (S k)), (eff k).ws.map (·.1))
  | [], new0, st, l, l', h => by
    simp only [runLog] at h; injection h with h; injection h with h1 h2; subst h1 h2
    exact ⟨fun _ => 0, fun _ => st, fun _ => ⟨undefV, []⟩, ⟨fun k i h => by simp at h⟩, rfl, rfl, fun _ _ => rfl, fun k i h => by simp at h⟩
  | i :: r, new0, st, l, l', h => by
    simp only [runLog] at h
    split at h
    · rename_i e he
      obtain ⟨new, S, eff, hr, h0, hl, q1, q2⟩ := log_ex h
      refine ⟨fun | 0 => new0 | k + 1 => new k, fun | 0 => st | k + 1 => S k, fun | 0 => e | k + 1 => eff k, ⟨fun k x hx => ?_⟩, rfl, hl, fun k hk => ?_, fun k x hx => ?_⟩
      · cases k with
        | zero => simp at hx; subst hx; exact ⟨he, h0⟩
        | succ k => exact hr.step k x (by simpa using hx)
      · rw [q1 k (by simp; omega), List.getElem?_append_left hk]
      · cases k with
        | zero =>
          simp at hx; subst hx
          rw [Nat.add_zero, q1 l.length (by simp), List.getElem?_append_right (Nat.le_refl _)]
          simp
        | succ k =>
          have := q2 k x (by simpa using hx)
          rw [← this]; congr 1; simp; omega
    · cases h

theorem mem_blksOf {b : Nat} : ∀ {l : List Loc}, Loc.blk b ∈ l → b ∈ blksOf l
  | .blk c :: r, h => by
    simp only [blksOf, List.mem_cons] at *
    rcases h with h | h
    · left; injection h
    · exact .inr (mem_blksOf h)
  | .slot n :: r, h => by
    simp only [blksOf]
    refine mem_blksOf ?_
    simpa using h
  | [], h => by simp at h

theorem disj_iff {a b : List Nat} (h : disj a b = true) {x : Nat} (hx : x ∈ a) : x ∉ b := by
  simp only [disj, List.all_eq_true, Bool.not_eq_true'] at h
  have := h x hx
  simpa using this

theorem pairsOk_at {l : Log} : ∀ {ps : List (Nat × Nat)} {i j : Nat}, pairsOk l ps = true → (i, j) ∈ ps →
    ∃ x y, l[i]? = some x ∧ l[j]? = some y ∧ disj x.2 y.1 = true ∧ disj x.2 y.2 = true ∧ disj x.1 y.2 = true
  | [], i, j, _, h => by simp at h
  | (p, q) :: r, i, j, h, hm => by
    simp only [pairsOk, Bool.and_eq_true] at h
    obtain ⟨h1, h2⟩ := h
    rcases List.mem_cons.1 hm with e | e
    · injection e with e1 e2; subst e1 e2
      split at h1
      · rename_i x y hx hy
        simp only [Bool.and_eq_true] at h1
        exact ⟨x, y, hx, hy, h1.1.1, h1.1.2, h1.2⟩
      · cases h1
    · exact pairsOk_at h2 e

def EdgesIn (ops : Array Oper) (D : Nat → Bool) (k : Nat) : Prop := ∀ o, ops[k]? = some o → ∀ e ∈ o.after, Region.binds .any e = true → D e.on = true

def Closed (ops : Array Oper) (D : Nat → Bool) : Prop := ∀ k, D k = true → EdgesIn ops D k

def Must (ops : Array Oper) (k i : Nat) : Prop := ∀ D, Closed ops D → EdgesIn ops D k → D i = true

theorem bef_ok : ∀ {os : List Oper} {acc : List (List Nat)}, (∀ (j : Nat) o, os[j]? = some o → ops[acc.length + j]? = some o) → (∀ (k : Nat) l i, acc[k]? = some l → i ∈ l → Must ops k i) →
    ∀ (k : Nat) l i, (befGo acc os)[k]? = some l → i ∈ l → Must ops k i
  | [], acc, _, ha => ha
  | o :: r, acc, ho, ha => by
    refine bef_ok (os := r) (acc := acc ++ [befOne acc o]) (fun j x hx => ?_) fun k l i hk hi => ?_
    · have := ho (j + 1) x (by simpa using hx)
      rw [← this]; congr 1; simp; omega
    · rcases get_app hk with hk | ⟨hge, hk⟩
      · exact ha k l i hk hi
      · have hk0 : k = acc.length := by
          have := lt_of_get hk; simp at this; omega
        subst hk0
        simp at hk; subst hk
        intro D hD hE
        replace hi := mem_once hi
        simp only [ List.mem_flatMap, List.mem_filter] at hi
        obtain ⟨e, ⟨he1, he2⟩, hi⟩ := hi
        have hon := hE o (by simpa using ho 0 o rfl) e (by simpa using he1) he2
        rcases List.mem_cons.1 hi with rfl | hi
        · exact hon
        · cases hac : acc[e.on]? with
          | none => rw [hac] at hi; simp at hi
          | some l =>
            rw [hac] at hi
            exact ha _ l i hac hi D hD (hD _ hon)

theorem chkPairs_at {bef : List (List Nat)} {pairs : List (Nat × Nat)} {j : Nat} {y : AIns} : ∀ {r : List AIns} {i0 : Nat}, chkPairs bef pairs j y i0 r = true → ∀ (k : Nat) x, r[k]? = some x → i0 + k < j → chkPair bef pairs (i0 + k) j x y = true
  | [], i0, _, k, x, hx, _ => by simp at hx
  | z :: r, i0, h, k, x, hx, hlt => by
    simp only [chkPairs, Bool.and_eq_true, Bool.or_eq_true, decide_eq_true_eq] at h
    cases k with
    | zero => simp at hx; subst hx; exact h.1.resolve_left (by omega)
    | succ k =>
      have := chkPairs_at h.2 k x (by simpa using hx) (by omega)
      rw [show i0 + (k + 1) = i0 + 1 + k by omega]; exact this

theorem chkDraw_at {bef : List (List Nat)} {pairs : List (Nat × Nat)} {all : List AIns} : ∀ {r : List AIns} {j0 : Nat}, chkDraw bef pairs all j0 r = true → ∀ (k : Nat) y, r[k]? = some y → chkPairs bef pairs (j0 + k) y 0 all = true
  | [], j0, _, k, y, hy => by simp at hy
  | z :: r, j0, h, k, y, hy => by
    simp only [chkDraw, Bool.and_eq_true] at h
    cases k with
    | zero => simp at hy; subst hy; exact h.1
    | succ k =>
      have := chkDraw_at h.2 k y (by simpa using hy)
      rw [show j0 + (k + 1) = j0 + 1 + k by omega]; exact this

theorem chkEdges_at : ∀ {r : List Oper} {j0 : Nat}, chkEdges j0 r = true → ∀ (k : Nat) o, r[k]? = some o → ∀ e ∈ o.after, Region.binds .any e = true → e.on < j0 + k
  | [], j0, _, k, o, ho => by simp at ho
  | z :: r, j0, h, k, o, ho => by
    simp only [chkEdges, Bool.and_eq_true] at h
    cases k with
    | zero =>
      simp at ho; subst ho
      intro e he hb
      have := Array.all_eq_true_iff_forall_mem.1 h.1 e he
      simpa [hb] using this
    | succ k =>
      intro e he hb
      have := chkEdges_at h.2 k o (by simpa using ho) e he hb
      omega

theorem slots_ap {x y : AIns} (h : slotsApart x y = true) : (∀ m, x.dst = some m → y.dst ≠ some m ∧ m ∉ slotsIns y) ∧ (∀ m, y.dst = some m → m ∉ slotsIns x) := by
  simp only [slotsApart, Bool.and_eq_true] at h
  obtain ⟨h1, h2⟩ := h
  constructor
  · intro m hm
    rw [hm] at h1
    simpa using h1
  · intro m hm
    rw [hm] at h2
    simpa using h2

variable {ins : List AIns} {new : Nat → Nat} {S : Nat → St} {eff : Nat → Eff}

/-- Two operations, one of which need not come first. -/
theorem apart_of (hr : Run F ins new S eff) {i j : Nat} (hi : i < ins.length) (hj : j < ins.length) (h1 : slotsApart ins[i] ins[j] = true)
    (h2 : memApart ins[i] ins[j] = true ∨ (disj ((eff i).ws.map (·.1)) (blksOf ((insR F ins[j] (new j)).reads (S j))) = true ∧
      disj ((eff i).ws.map (·.1)) ((eff j).ws.map (·.1)) = true ∧ disj (blksOf ((insR F ins[i] (new i)).reads (S i))) ((eff j).ws.map (·.1)) = true)) : Apart F ins new S eff i j := by
  obtain ⟨s1, s2⟩ := slots_ap h1
  have gi : ins[i]? = some ins[i] := List.getElem?_eq_getElem hi
  have gj : ins[j]? = some ins[j] := List.getElem?_eq_getElem hj
  obtain ⟨ri, _⟩ := hr.step i _ gi
  obtain ⟨rj, _⟩ := hr.step j _ gj
  refine ⟨fun x y m hx hy hm => ?_, fun x y m hx hy hm hl => ?_, fun y b hy hb => ?_, fun x b hx hb hl => ?_⟩
  · rw [gi] at hx; injection hx with hx; subst hx
    rw [gj] at hy; injection hy with hy; subst hy
    exact ⟨(s1 m hm).1, fun hl => (s1 m hm).2 (sl_insR F _ _ _ _ hl)⟩
  · rw [gi] at hx; injection hx with hx; subst hx
    rw [gj] at hy; injection hy with hy; subst hy
    exact s2 m hm (sl_insR F _ _ _ _ hl)
  · rw [gj] at hy; injection hy with hy; subst hy
    rcases h2 with h2 | ⟨k1, k2, k3⟩
    · simp only [memApart, Bool.and_eq_true, Bool.or_eq_true, Bool.not_eq_true'] at h2
      rcases h2.1 with h | h
      · rw [w0_insR F _ _ h _ _ ri] at hb; simp at hb
      · refine ⟨?_, b0_insR F _ _ h _ _ rj b⟩
        rw [w0_insR F _ _ (memT_W h) _ _ rj]; simp
    · exact ⟨disj_iff k2 hb, fun hl => disj_iff k1 hb (mem_blksOf hl)⟩
  · rw [gi] at hx; injection hx with hx; subst hx
    rcases h2 with h2 | ⟨k1, k2, k3⟩
    · simp only [memApart, Bool.and_eq_true, Bool.or_eq_true, Bool.not_eq_true'] at h2
      rcases h2.2 with h | h
      · rw [w0_insR F _ _ h _ _ rj] at hb; simp at hb
      · exact b0_insR F _ _ h _ _ ri b hl
    · exact disj_iff k3 (mem_blksOf hl) hb

def Dl (listed : Array Bool) : Nat → Bool := fun j => listed.getD j false

theorem Dl_set {listed : Array Bool} {i : Nat} (hi : i < listed.size) : Dl (listed.setIfInBounds i true) = fun j => if j = i then true else Dl listed j := by
  funext j
  unfold Dl
  by_cases h : j = i
  · subst h; simp [hi]
  · rw [if_neg h, getD_set_ne false (Ne.symm h)]

theorem count_step {l : Array Bool} {i : Nat} (hi : i < l.size) (h : l.getD i false = false) : (l.setIfInBounds i true).count false + 1 = l.count false := by
  have he : l[i] = false := by simpa [hi] using h
  have hpos : 0 < l.count false := Array.count_pos_iff.2 (by rw [← he]; exact Array.getElem_mem hi)
  rw [Array.setIfInBounds, dif_pos hi, Array.count_set hi, he]
  simp; omega

theorem count_zero {l : Array Bool} (h : l.count false = 0) {i : Nat} (hi : i < l.size) : l.getD i false = true := by
  cases hv : l.getD i false with
  | true => rfl
  | false =>
    have := count_step hi hv
    omega

theorem least {l : Array Bool} : ∀ m, m ≤ l.size → (∀ j, j < m → Dl l j = true) ∨ ∃ k, k < m ∧ Dl l k = false ∧ ∀ j, j < k → Dl l j = true
  | 0, _ => .inl fun j hj => by omega
  | m + 1, h => by
    rcases least (l := l) m (by omega) with h1 | ⟨k, a, b, c⟩
    · cases hm : Dl l m with
      | true => left; intro j hj; by_cases e : j = m; (subst e; exact hm); exact h1 j (by omega)
      | false => exact .inr ⟨m, by omega, hm, h1⟩
    · exact .inr ⟨k, by omega, b, c⟩

theorem getD_both {l : Array Bool} {j : Nat} (hj : j < l.size) : l.getD j true = l.getD j false := by simp [hj]

theorem any_ok (hF : SoundF P F) (hr : Run F ins new S eff) (hlen : ins.length = ops.size) (hc : ∀ (k : Nat) i, ins[k]? = some i → ∃ o, ops[k]? = some o ∧ chkIns P N ops i o = true)
    (hedge : ∀ (k : Nat) o, ops[k]? = some o → ∀ e ∈ o.after, Region.binds .any e = true → e.on < k)
    (hap : ∀ i j, i < j → j < ins.length → Must ops j i ∨ Apart F ins new S eff i j)
    (next : ∀ a' w', Sim N E (S ins.length) a' w' → Q .normal a' w') :
    ∀ (fuel : Nat) (listed : Array Bool) (st : St) (a : Act) (w : World), listed.size = ops.size → Agree ins eff (S 0) (Dl listed) st → Sim N E st a w → Closed ops (Dl listed) → listed.count false = fuel →
      wpAny P .any ops Q fuel listed a w := by
  intro fuel
  induction fuel with
  | zero =>
    intro listed st a w hsz hag hs hcl hcnt
    refine ⟨?_, ?_⟩
    · cases hre : Region.ready .any ops listed with
      | nil => rfl
      | cons j l =>
        exfalso
        have hm : j ∈ Region.ready .any ops listed := by rw [hre]; simp
        obtain ⟨h1, o, ho, _⟩ := mem_ready.1 hm
        have hj : j < ops.size := (Array.getElem?_eq_some_iff.1 ho).1
        rw [getD_both (by omega), count_zero hcnt (by omega)] at h1; cases h1
    · obtain ⟨e1, e2⟩ := agree_end hr hag fun j hj => count_zero hcnt (by omega)
      exact next a w (hs.congr (fun m => (e1 m).symm) e2.symm)
  | succ fuel ih =>
    intro listed st a w hsz hag hs hcl hcnt
    refine ⟨fun hnil => ?_, fun k hk => ?_⟩
    · exfalso
      rcases least (l := listed) ops.size (by omega) with hall | ⟨k, hk, hkf, hlow⟩
      · have : listed.count false = 0 := by
          rw [Array.count_eq_zero]
          intro hm
          obtain ⟨i, hi, he⟩ := Array.getElem_of_mem hm
          have := hall i (by omega)
          unfold Dl at this
          simp [hi, he] at this
        omega
      · have hm : k ∈ Region.ready .any ops listed := by
          rw [mem_ready]
          refine ⟨by rw [getD_both (by omega)]; exact hkf, ops[k], by simp [hk], fun e he hb => ?_⟩
          exact hlow _ (hedge k ops[k] (by simp [hk]) e he hb)
        rw [hnil] at hm; cases hm
    · obtain ⟨h1, o, ho, hall⟩ := mem_ready.1 hk
      have hklt : k < ops.size := (Array.getElem?_eq_some_iff.1 ho).1
      have hkf : Dl listed k = false := by unfold Dl; rw [← getD_both (by omega)]; exact h1
      have gk : ins[k]? = some (ins[k]'(by omega)) := List.getElem?_eq_getElem _
      obtain ⟨o', ho', hco⟩ := hc k _ gk
      have hedges : EdgesIn ops (Dl listed) k := by
        intro o2 ho2 e he hb
        rw [ho] at ho2; injection ho2 with ho2; subst ho2
        exact hall e he hb
      obtain ⟨r1, r2⟩ := any_step hr hag gk hkf (fun j hj hDj => by
          rcases hap j k hj (by omega) with hm | hm
          · have := hm _ hcl hedges
            rw [hDj] at this; cases this
          · exact hm) (fun j hj hjl hDj => by
          rcases hap k j hj hjl with hm | hm
          · have := hm _ hcl (hcl j hDj)
            rw [hkf] at this; cases this
          · exact hm)
      refine ins_ok hF hs ho' hco r1 fun a' w' hs' => ?_
      refine ih _ _ a' w' (by simp [hsz]) ?_ hs' ?_ ?_
      · rw [Dl_set (by omega)]; exact r2
      · rw [Dl_set (by omega)]
        intro j hj o2 ho2 e he hb
        dsimp only at hj ⊢
        have hm : Dl listed e.on = true → (if e.on = k then true else Dl listed e.on) = true := by intro h; split <;> simp [h]
        by_cases hjk : j = k
        · subst hjk; exact hm (hedges o2 ho2 e he hb)
        · rw [if_neg hjk] at hj; exact hm (hcl j hj o2 ho2 e he hb)
      · have := count_step (l := listed) (i := k) (by omega) hkf
        omega

theorem reg_ok (hF : SoundF P F) (hmix : P.follows .mixedOrders = true) {id : Nat} {draw : Bool} {pairs : List (Nat × Nat)} {ins : List AIns} (h : region F pairs ins st = some st')
    (hc : chkReg P N draw pairs ins ops = true) (hs : Sim N E st a w) (next : ∀ a' w', Sim N E st' a' w' → Q .normal a' w') : (Code.region id ops draw).wp P Q a w := by
  simp only [chkReg, Bool.and_eq_true, Bool.or_eq_true, Bool.not_eq_true'] at hc
  obtain ⟨hall, hdraw⟩ := hc
  obtain ⟨hlen, hat⟩ := chkAll_at hall
  have hlen : ins.length = ops.size := by simpa using hlen
  have hat : ∀ (k : Nat) i, ins[k]? = some i → ∃ o, ops[k]? = some o ∧ chkIns P N ops i o = true := fun k i hi => by simpa using hat k i hi
  have hs0 := hs.room (news ins)
  have hrun : ∃ (new : Nat → Nat) (S : Nat → St) (eff : Nat → Eff), Run F ins new S eff ∧ S 0 = ⟨st.env, room (news ins) st.sto⟩ ∧ S ins.length = st' ∧
      ∀ i j, (i, j) ∈ pairs → ∃ x y, ins[i]? = some x ∧ ins[j]? = some y ∧ disj ((eff i).ws.map (·.1)) (blksOf ((insR F y (new j)).reads (S j))) = true ∧
      disj ((eff i).ws.map (·.1)) ((eff j).ws.map (·.1)) = true ∧ disj (blksOf ((insR F x (new i)).reads (S i))) ((eff j).ws.map (·.1)) = true := by
    unfold region at h
    split at h
    · obtain ⟨new, S, eff, hr, h0, hl⟩ := run_ex h
      exact ⟨new, S, eff, hr, h0, hl, fun i j hm => by simp at hm⟩
    · split at h
      · rename_i s' l hlog
        split at h
        · rename_i hp
          injection h with h; subst h
          obtain ⟨new, S, eff, hr, h0, hl, _, q⟩ := log_ex hlog
          refine ⟨new, S, eff, hr, h0, hl, fun i j hm => ?_⟩
          obtain ⟨x, y, hx, hy, d1, d2, d3⟩ := pairsOk_at hp hm
          have il : ∀ (k : Nat) z, l[k]? = some z → k < ins.length := by
            intro k z hk
            have := lt_of_get hk
            have hll : l.length = ins.length := by
              clear q hr h0 hl hp hx hy
              have : ∀ {r : List AIns} {new0 : Nat} {s0 : St} {l0 l1 : Log} {s1 : St}, runLog F r new0 s0 l0 = some (s1, l1) → l1.length = l0.length + r.length := by
                intro r
                induction r with
                | nil => intro new0 s0 l0 l1 s1 h; simp only [runLog] at h; injection h with h; injection h with h1 h2; subst h2; simp
                | cons i r ih =>
                  intro new0 s0 l0 l1 s1 h
                  simp only [runLog] at h
                  split at h
                  · rw [ih h]; simp; omega
                  · cases h
              simpa using this hlog
            omega
          have hi := il i x hx
          have hj := il j y hy
          have gi : ins[i]? = some ins[i] := List.getElem?_eq_getElem hi
          have gj : ins[j]? = some ins[j] := List.getElem?_eq_getElem hj
          have qi := q i _ gi
          have qj := q j _ gj
          simp only [List.length_nil, Nat.zero_add] at qi qj
          rw [hx] at qi; injection qi with qi; subst qi
          rw [hy] at qj; injection qj with qj; subst qj
          exact ⟨_, _, gi, gj, d1, d2, d3⟩
        · cases h
      · cases h
  obtain ⟨new, S, eff, hr, h0, hl, hp⟩ := hrun
  cases draw with
  | false =>
    refine wp_region ?_
    rw [List.range_eq_range', ← hlen]
    have hr' : ∃ new0, runIns F ins new0 ⟨st.env, room (news ins) st.sto⟩ = some st' := by
      unfold region at h
      split at h
      · exact ⟨_, h⟩
      · split at h
        · rename_i s' l hlog
          split at h
          · injection h with h; subst h
            have : ∀ {r : List AIns} {new0 : Nat} {s0 : St} {l0 l1 : Log} {s1 : St}, runLog F r new0 s0 l0 = some (s1, l1) → runIns F r new0 s0 = some s1 := by
              intro r
              induction r with
              | nil => intro new0 s0 l0 l1 s1 h; simp only [runLog] at h; injection h with h; injection h with h1 h2; subst h1; rfl
              | cons i r ih =>
                intro new0 s0 l0 l1 s1 h
                simp only [runLog] at h
                simp only [runIns]
                split at h
                · rename_i e he
                  exact ih h
                · cases h
            exact ⟨_, this hlog⟩
          · cases h
        · cases h
    obtain ⟨new0, hr'⟩ := hr'
    exact runIns_ok hF (fun j i hj => by simpa using hat j i hj) hr' hs0 next
  | true =>
    obtain ⟨he, hd⟩ := hdraw.resolve_left (by simp)
    refine wp_region_any hmix ?_
    have hs1 : Sim N E (S 0) a { w with drawn := w.drawn + 1 } := by rw [h0]; exact hs0.heap rfl rfl rfl
    refine any_ok hF hr hlen hat (fun k o ho => ?_) (fun i j hij hj => ?_) (by rw [hl]; exact next) ops.size _ (S 0) a _ (by simp) ?_ hs1 ?_ ?_
    · have := chkEdges_at he k o (by simpa using ho)
      simpa using this
    · have gi : ins[i]? = some (ins[i]'(by omega)) := List.getElem?_eq_getElem _
      have gj : ins[j]? = some ins[j] := List.getElem?_eq_getElem hj
      have h1 := chkDraw_at hd j _ gj
      rw [Nat.zero_add] at h1
      have h2 := chkPairs_at h1 i _ gi (by omega)
      rw [Nat.zero_add] at h2
      simp only [chkPair, Bool.or_eq_true, Bool.and_eq_true] at h2
      rcases h2 with h2 | ⟨h2, h3⟩
      · left
        cases hb : (befGo [] ops.toList)[j]? with
        | none => rw [hb] at h2; simp at h2
        | some l =>
          rw [hb] at h2
          exact bef_ok (ops := ops) (os := ops.toList) (acc := []) (fun j o ho => by simpa using ho) (fun k l i hk => by simp at hk) j l i hb (by simpa using h2)
      · right
        refine apart_of hr (by omega) hj h2 ?_
        rcases h3 with h3 | h3
        · exact .inl h3
        · obtain ⟨x, y, hx, hy, d⟩ := hp i j (by simpa using h3)
          rw [gi] at hx; injection hx with hx; subst hx
          rw [gj] at hy; injection hy with hy; subst hy
          exact .inr d
    · have : Dl (Array.replicate ops.size false) = fun _ => false := by
        funext j; unfold Dl; simp [Array.getElem?_replicate]; split <;> rfl
      rw [this]; exact agree_start
    · intro j hj
      unfold Dl at hj
      simp [Array.getElem?_replicate] at hj
      split at hj <;> simp at hj
    · simp

end
end Go.Am
end

section
namespace Go.Am

def chkCode (P : Program) (N : Nat) : ACode → Code → Bool
  | .skip, c => match c with
    | .skip => true
    | _ => false
  | .reg draw pairs ins, c => match c with
    | .region _ ops d => draw == d && chkReg P N draw pairs ins ops
    | _ => false
  | .seq a b, c => match c with
    | .seq x y => chkCode P N a x && chkCode P N b y
    | _ => false
  | .cond o a b, c => match c with
    | .cond p x y => chkO o p && chkCode P N a x && chkCode P N b y
    | _ => false
  | .block id a, c => match c with
    | .block id' x => id == id' && chkCode P N a x
    | _ => false
  | .loop _ a, c => match c with
    | .loop x => chkCode P N a x
    | _ => false
  | .lp _ _ _, _ => false
  | .scope a, c => match c with
    | .scope x => chkCode P N a x
    | _ => false
  | .exit id, c => match c with
    | .exit id' => id == id'
    | _ => false
  | .ret, c => match c with
    | .ret => true
    | _ => false
  | .keep _ a, c => chkCode P N a c
  | .tidy _ a, c => chkCode P N a c
  | .br _ pre o a b rest, c => match c with
    | .seq (.seq p (.cond q x y)) z => chkCode P N pre p && chkO o q && chkCode P N a x && chkCode P N b y && chkCode P N rest z
    | _ => false

def exitOf : AX → Exit
  | .normal => .normal
  | .exit id => .exit id
  | .ret => .ret

/-- What a run of abstract code tells. -/
def CodeSim (P : Program) (c : ACode) (st : St) (r : Out) : Prop :=
  match c with
  | .lp n _ b => ∃ k, ∀ (N : Nat) (code : Code) (E : Sn) (a : Act) (w : World) (Q : Exit → Act → World → Prop), chkCode P N b code = true → E.σ.length ≤ n → n ≤ st.sto.length → Sim N E st a w →
      (∀ a' w', Sim N E r.2 a' w' → Q (exitOf r.1) a' w') → Code.rounds P code Q k a w
  | c => ∀ (N : Nat) (code : Code) (E : Sn) (a : Act) (w : World) (Q : Exit → Act → World → Prop), chkCode P N c code = true → Sim N E st a w →
      (∀ a' w', Sim N E r.2 a' w' → Q (exitOf r.1) a' w') → code.wp P Q a w

theorem CodeSim.get {P : Program} {c : ACode} {st : St} {r : Out} (h : CodeSim P c st r) {N : Nat} {code : Code} {E : Sn} {a : Act} {w : World} {Q : Exit → Act → World → Prop} (hc : chkCode P N c code = true) (hs : Sim N E st a w)
    (next : ∀ a' w', Sim N E r.2 a' w' → Q (exitOf r.1) a' w') : code.wp P Q a w := by
  cases c <;> first | exact h N code E a w Q hc hs next | (simp [chkCode] at hc; done)

/-! ### What is kept -/

theorem restr_lk {env : List (Nat × AV)} {n : Nat} {x : AV} : ∀ {live : List Nat}, lk n (restr live env) = some x → lk n env = some x
  | [], h => by simp [restr, lk] at h
  | k :: r, h => by
    simp only [restr] at h
    split at h
    · rename_i v hv
      simp only [lk] at h
      split at h
      · rename_i e; subst e; rw [hv]; exact h
      · exact restr_lk h
    · exact restr_lk h

theorem finE_lk {m : Nat} {sto : List Blk} {n : Nat} {y : AV} : ∀ {env env' : List (Nat × AV)}, finE m sto env = some env' → lk n env' = some y → ∃ x, lk n env = some x ∧ fin m [] sto x = some y
  | [], env', h, hy => by simp [finE] at h; subst h; simp [lk] at hy
  | (k, x) :: r, env', h, hy => by
    simp only [finE] at h
    split at h
    · rename_i z l hz hl
      injection h with h; subst h
      simp only [lk] at hy ⊢
      split at hy
      · rename_i e; injection hy with hy; subst hy; exact ⟨x, by simp [e], hz⟩
      · rename_i e; obtain ⟨x', h1, h2⟩ := finE_lk hl hy; exact ⟨x', by simp [e, h1], h2⟩
    · cases h

section
variable {P : Program} {N : Nat} {E : Sn} {st st' : St} {a : Act} {w : World}

theorem Sim.restr (h : Sim N E st a w) (live : List Nat) : Sim N E ⟨restr live st.env, st.sto⟩ a w := by
  obtain ⟨h1, h2, g, hi, hr, ht⟩ := h
  exact ⟨h1, h2, g, hi, fun n x hx => hr n x (restr_lk hx), ht⟩

theorem clean_ok {n : Nat} {live : List Nat} (h : Sim N E st a w) (hc : clean n live st = some st') (hE : E.σ.length ≤ n) (hn : n ≤ st.sto.length) : Sim N E st' a w ∧ st'.sto.length = n := by
  unfold clean at hc
  split at hc
  · rename_i e
    injection hc with hc; subst hc
    exact ⟨h.restr live, e⟩
  · split at hc
    · rename_i ev l hev hl
      injection hc with hc; subst hc
      obtain ⟨h1, h2, g, hi, hr, ht⟩ := h
      obtain ⟨k1, k2⟩ := finBs_some hl
      have hlen : l.length = n := by rw [← k1]; simp; omega
      have co : CutOk ⟨st.sto, g, w⟩ n [] l := by
        refine ⟨hi, hn, List.nodup_nil, fun b hb => by simp at hb, by simp [hlen], fun k x hk => ?_⟩
        have hlt := lt_of_get hk
        have hx : (st.sto.take n)[k]? = some (st.sto[k]'(by omega)) := by rw [List.getElem?_take_of_lt (by omega)]; exact List.getElem?_eq_getElem _
        refine ⟨_, ?_, k2 k _ x hx hk⟩
        rw [idOf_lt (by omega)]; exact List.getElem?_eq_getElem _
      refine ⟨⟨h1, h2, (cutSn ⟨st.sto, g, w⟩ n [] l).g, cut_inv co, fun k y hy => ?_, cut_trans co ht hE⟩, hlen⟩
      obtain ⟨x, hx, hf⟩ := finE_lk hev hy
      obtain ⟨v, hv, hrel⟩ := hr k x (restr_lk hx)
      exact ⟨v, hv, cut_rel co hrel hf⟩
    · cases hc

/-! ### Results -/

def chkRes (P : Program) : List ARes → List ResultVar → Bool
  | [], [] => true
  | .tmp t :: r, .tmp t' :: q => t == t' && chkRes P r q
  | .cell t agg size :: r, .cell t' ty :: q => t == t' && agT P ty == some agg && szT P ty == some size && chkRes P r q
  | _, _ => false

def resF (tmps : Array Value) : ResultVar → Sem Value
  | .tmp t => pure (tmps.getD t undef)
  | .cell a t => do loadVar t (← asAddr (tmps.getD a undef))

theorem resR_ok {s : Sn} {env : List (Nat × AV)} {tmps : Array Value} (hi : Inv s) (he : EnvRel s tmps env) : ∀ {rs : List ARes} {qs : List ResultVar} {vs : List AV}, chkRes P rs qs = true → (resR rs).run ⟨env, s.σ⟩ = some vs →
    ∃ us : List Value, (qs.mapM (resF tmps)).run P s.w = .ok us s.w ∧ vs.length = us.length ∧ ∀ (i : Nat) x v, vs[i]? = some x → us[i]? = some v → RelA s x v
  | [], [], vs, _, h => by
    simp only [resR, RM.run] at h; injection h with h; subst h
    exact ⟨[], by simp, rfl, fun i x v h => by simp at h⟩
  | .tmp t :: r, .tmp t' :: q, vs, hc, h => by
    simp only [chkRes, Bool.and_eq_true, beq_iff_eq] at hc
    obtain ⟨rfl, hc⟩ := hc
    simp only [resR] at h
    obtain ⟨x, h1, h⟩ := bind_some h
    obtain ⟨l, h2, h⟩ := bind_some h
    simp only [RM.run] at h; injection h with h; subst h
    simp only [RM.run] at h1
    split at h1
    · rename_i y hy
      injection h1 with h1; subst h1
      obtain ⟨v, hv, hr⟩ := he _ _ hy
      obtain ⟨us, k1, k2, k3⟩ := resR_ok hi he hc h2
      refine ⟨v :: us, ?_, by simp [k2], fun i x u hx hu => ?_⟩
      · rw [List.mapM_cons]
        simp only [resF, Sem.run_bind, Sem.run_pure, Result.andThen_ok, k1, Array.getD_eq_getD_getElem?, hv, Option.getD_some]
      · cases i with
        | zero => simp at hx hu; subst hx hu; exact hr
        | succ i => exact k3 i x u (by simpa using hx) (by simpa using hu)
    · cases h1
  | .cell t agg size :: r, .cell t' ty :: q, vs, hc, h => by
    simp only [chkRes, Bool.and_eq_true, beq_iff_eq] at hc
    obtain ⟨⟨⟨rfl, ha⟩, hz⟩, hc⟩ := hc
    simp only [resR] at h
    obtain ⟨x, h1, h⟩ := bind_some h
    obtain ⟨e, h3, h⟩ := bind_some h
    obtain ⟨l, h2, h⟩ := bind_some h
    simp only [RM.run] at h; injection h with h; subst h
    simp only [RM.run] at h1
    split at h1
    · rename_i y hy
      injection h1 with h1; subst h1
      obtain ⟨v, hv, hr⟩ := he _ _ hy
      obtain ⟨us, k1, k2, k3⟩ := resR_ok hi he hc h2
      obtain ⟨rr, o, ws, q1, q2, q3, _, q4⟩ := loadR_rel hi h3 hr
      obtain ⟨l1, l2⟩ := run_loadVar (P := P) ha hz q2 q3
      have hload : ∃ u, (loadVar ty ⟨rr, o, none⟩).run P s.w = .ok u s.w ∧ RelA s e.val u := by
        rcases q4 with ⟨rfl, hq⟩ | ⟨rfl, u, hu, hq⟩
        · exact ⟨_, l1 rfl, hq⟩
        · exact ⟨u, l2 rfl u hu, hq⟩
      obtain ⟨u, hu, hrel⟩ := hload
      refine ⟨u :: us, ?_, by simp [k2], fun i x z hx hz => ?_⟩
      · rw [List.mapM_cons]
        subst q1
        simp only [resF, Sem.run_bind, Array.getD_eq_getD_getElem?, hv, Option.getD_some]
        simp [asAddr, hu, k1]
      · cases i with
        | zero => simp at hx hz; subst hx hz; exact hrel
        | succ i => exact k3 i x z (by simpa using hx) (by simpa using hz)
    · cases h1
  | [], _ :: _, _, hc, _ => by simp [chkRes] at hc
  | .tmp _ :: _, [], _, hc, _ => by simp [chkRes] at hc
  | .cell _ _ _ :: _, [], _, hc, _ => by simp [chkRes] at hc
  | .tmp _ :: _, .cell _ _ :: _, _, hc, _ => by simp [chkRes] at hc
  | .cell _ _ _ :: _, .tmp _ :: _, _, hc, _ => by simp [chkRes] at hc

theorem outIds_ge {m : Nat} {fresh : Bool} {sto : List Blk} : ∀ {es : List Ent}, ∀ b ∈ outIds m fresh sto es, m ≤ b
  | [], b, h => by simp [outIds] at h
  | .elem _ _ _ :: r, b, h => outIds_ge (es := r) b (by simpa [outIds] using h)
  | .whole c :: r, b, h => by
    simp only [outIds] at h
    split at h
    · exact outIds_ge (es := r) b h
    · rename_i hc
      have two : b ∈ c :: outIds m fresh sto r → m ≤ b := by
        intro h
        rcases List.mem_cons.1 h with rfl | h
        · omega
        · exact outIds_ge (es := r) b h
      split at h
      · exact two h
      · split at h
        · exact two h
        · exact outIds_ge (es := r) b h
      · exact outIds_ge (es := r) b h

theorem one_rel {s : Sn} {vs : List AV} {us : List Value} (hl : vs.length = us.length) (hr : ∀ (i : Nat) x v, vs[i]? = some x → us[i]? = some v → RelA s x v) :
    RelA s (one vs) (if h : us.toArray.size = 1 then us.toArray[0] else .tuple us.toArray) := by
  by_cases h : us.toArray.size = 1
  · rw [dif_pos h]
    cases us with
    | nil => simp at h
    | cons u q =>
      cases vs with
      | nil => simp at hl
      | cons x p =>
        have hq : q = [] := by simpa using h
        subst hq
        have hp : p = [] := by simpa using hl
        subst hp
        exact hr 0 x u rfl rfl
  · rw [dif_neg h]
    have : one vs = .tup vs := by
      match vs, hl with
      | [], _ => rfl
      | [x], hl => simp at h; simp at hl; omega
      | _ :: _ :: _, _ => rfl
    rw [this]
    exact .tup _ _ (by simpa using hl) fun i x v hx hv => hr i x v hx (by simpa using hv)

theorem finish_ok {af : AFn} {fn : Func} {m : Nat} {r : Res} (hs : Sim N E st a w) (hm : E.σ.length = m) (h : finish af m st = some r) (hc : chkRes P af.res fn.results.toList = true) :
    a.defers = [] ∧ ∃ v, (results fn a.tmps).run P w = .ok v w ∧ ∃ g', Inv ⟨r.2, g', w⟩ ∧ Trans E ⟨r.2, g', w⟩ ∧ RelA ⟨r.2, g', w⟩ r.1 v := by
  obtain ⟨h1, h2, g, hi, hr, ht⟩ := hs
  refine ⟨h2, ?_⟩
  unfold finish at h
  cases hvs : (resR af.res).run st with
  | none => rw [hvs] at h; cases h
  | some vs =>
    rw [hvs] at h
    dsimp only at h
    obtain ⟨us, k1, k2, k3⟩ := resR_ok (P := P) (s := ⟨st.sto, g, w⟩) (env := st.env) hi hr hc hvs
    have hrun : (results fn a.tmps).run P w = .ok (if h : us.toArray.size = 1 then us.toArray[0] else .tuple us.toArray) w := by
      have : results fn a.tmps = (do
        let vs ← fn.results.mapM (resF a.tmps)
        pure (if h : vs.size = 1 then vs[0] else .tuple vs)) := rfl
      rw [this, Array.mapM_eq_mapM_toList]
      have k1' : (fn.results.toList.mapM (resF a.tmps)).run P w = .ok us w := k1
      simp [k1']
    refine ⟨_, hrun, ?_⟩
    split at h
    · injection h with h; subst h
      exact ⟨g, hi, ht, one_rel k2 k3⟩
    · split at h
      · rename_i hnd
        have hge0 := outIds_ge (m := m) (fresh := af.fresh) (sto := st.sto) (es := entsB st.sto (entsOf.entsOfL vs []) (entsOf.entsOfL vs []))
        generalize outIds m af.fresh st.sto (entsB st.sto (entsOf.entsOfL vs []) (entsOf.entsOfL vs [])) = ids at *
        split at h
        · rename_i ws l q hws hl hq
          split at h
          · rename_i q' hq'
            injection h with h; subst h
            obtain ⟨a1, a2⟩ := finL_some hws
            obtain ⟨b1, b2⟩ := finBs_some hl
            obtain ⟨c1, c2⟩ := pickB_some hq
            obtain ⟨d1, d2⟩ := finBs_some hq'
            have hle : m ≤ st.sto.length := by rw [← hm]; exact ht.len
            have hlen : l.length = m := by rw [← b1]; simp; omega
            have co : CutOk ⟨st.sto, g, w⟩ m ids (l ++ q') := by
              refine ⟨hi, hle, nodupB_iff hnd, hge0, by simp; omega, fun k x hk => ?_⟩
              rcases get_app hk with hk | ⟨hge, hk⟩
              · have hlt := lt_of_get hk
                have hx : (st.sto.take m)[k]? = some (st.sto[k]'(by omega)) := by rw [List.getElem?_take_of_lt (by omega)]; exact List.getElem?_eq_getElem _
                refine ⟨_, ?_, b2 k _ x hx hk⟩
                rw [idOf_lt (by omega)]; exact List.getElem?_eq_getElem _
              · have hlt := lt_of_get hk
                have hx : q[k - l.length]? = some (q[k - l.length]'(by omega)) := List.getElem?_eq_getElem _
                refine ⟨_, ?_, d2 _ _ x hx hk⟩
                have hid : ids[k - l.length]? = some (ids[k - l.length]'(by omega)) := List.getElem?_eq_getElem _
                have hg := c2 _ _ _ hid hx
                have hio : idOf m ids k = ids[k - l.length]'(by omega) := by
                  unfold idOf
                  rw [if_neg (by omega), ← hlen, hid]; rfl
                rw [hio]; exact hg
            refine ⟨_, cut_inv co, cut_trans co ht (by omega), one_rel (by omega) fun i x v hx hv => ?_⟩
            have hlt := lt_of_get hx
            have hx0 : vs[i]? = some (vs[i]'(by omega)) := List.getElem?_eq_getElem _
            exact cut_rel co (k3 i _ v hx0 hv) (a2 i _ x hx0 hx)
          · cases h
        · cases h
      · cases h

/-! ### Functions -/

def chkFn (P : Program) (f : FuncId) (af : AFn) : Bool :=
  match P.funcs[f]? with
  | none => false
  | some fn => match fn.body with
    | none => false
    | some code => fn.name != "runtime.NumGoroutine" && af.nt == af.np + (fn.ntmps - af.np) && chkRes P af.res fn.results.toList && chkCode P af.nt af.body code

theorem enum_lk : ∀ {args : List AV} {k n : Nat} {x : AV}, lk n (enum k args) = some x → k ≤ n ∧ args[n - k]? = some x
  | [], k, n, x, h => by simp [enum, lk] at h
  | y :: r, k, n, x, h => by
    simp only [enum, lk] at h
    split at h
    · rename_i e; subst e; exact ⟨Nat.le_refl _, by simpa using h⟩
    · rename_i e
      obtain ⟨h1, h2⟩ := enum_lk h
      refine ⟨by omega, ?_⟩
      rw [show n - k = (n - (k + 1)) + 1 by omega]
      simpa using h2

end

section
variable {P : Program} {T : Tabl}

/-- What a function's beginning and end owe, in one. -/
theorem fn_frame {f : FuncId} {af : AFn} {args : List AV} {blks : List Blk} {r : Res} (hc : chkFn P f af = true) (hnp : args.length = af.np)
    (h : ∀ (code : Code) (g : Gh) (w : World) (a : Act) (Q : Exit → Act → World → Prop), chkCode P af.nt af.body code = true → Sim af.nt ⟨blks, g, w⟩ ⟨enum 0 args, blks⟩ a w →
      (∀ e s a' w', (e = .normal ∨ e = .ret) → finish af blks.length s = some r → Sim af.nt ⟨blks, g, w⟩ s a' w' → Q (exitOf e) a' w') → code.wp P Q a w) : CallOk P f args blks r := by
  unfold chkFn at hc
  split at hc
  · cases hc
  · rename_i fn hfn
    split at hc
    · cases hc
    · rename_i code hb
      simp only [Bool.and_eq_true, beq_iff_eq, bne_iff_ne, ne_eq] at hc
      obtain ⟨⟨⟨hname, hnt⟩, hres⟩, hcode⟩ := hc
      refine ⟨⟨fn, hfn, by simp [hb], by simpa using hname⟩, fun g w vals hinv hlen hrel => ?_⟩
      refine calls_of_wp hfn hb ?_
      have hs0 : Sim af.nt ⟨blks, g, w⟩ ⟨enum 0 args, blks⟩ { tmps := vals ++ Array.replicate (fn.ntmps - vals.size) undef, defers := [] } w := by
        refine ⟨by simp; omega, rfl, g, hinv, fun n x hx => ?_, .refl _⟩
        obtain ⟨_, hx⟩ := enum_lk hx
        rw [Nat.sub_zero] at hx
        have hlt := lt_of_get hx
        refine ⟨vals[n]'(by omega), ?_, hrel n x _ hx (Array.getElem?_eq_getElem _)⟩
        rw [Array.getElem?_append_left (by omega)]; exact Array.getElem?_eq_getElem _
      have fin : ∀ {s}, finish af blks.length s = some r → ∀ a' w', Sim af.nt ⟨blks, g, w⟩ s a' w' → a'.defers = [] ∧ ∃ v, (results fn a'.tmps).run P w' = .ok v w' ∧ ∃ v' g', Ending.returned v = .returned v' ∧
          Inv ⟨r.2, g', w'⟩ ∧ Trans ⟨blks, g, w⟩ ⟨r.2, g', w'⟩ ∧ RelA ⟨r.2, g', w'⟩ r.1 v' := by
        intro s hfin a' w' hs
        obtain ⟨q1, v, q2, g', q3, q4, q5⟩ := finish_ok hs rfl hfin hres
        exact ⟨q1, v, q2, v, g', rfl, q3, q4, q5⟩
      refine h code g w _ _ hcode hs0 fun e s a' w' he hfin hs => ?_
      rcases he with rfl | rfl
      · exact fin hfin a' w' hs
      · exact fin hfin a' w' hs

theorem callK_ok {R : ACode → St → Option Out} (ih : ∀ c s r, R c s = some r → CodeSim P c s r) {f : FuncId} {k : FkFn} {args : List AV} {blks : List Blk} {r : Res} (hc : chkFn P f k.af = true) (hnp : args.length = k.np)
    (h : callK R k args blks = some r) : CallOk P f args blks r := by
  refine fn_frame hc hnp fun code g w a Q hcode hs0 fin => ?_
  simp only [FkFn.af] at hcode fin hs0
  cases code <;> simp only [chkCode, Bool.false_eq_true] at hcode
  rename_i code0 codeb
  simp only [Bool.and_eq_true] at hcode
  obtain ⟨hc0, hcb⟩ := hcode
  unfold callK at h
  split at h
  · rename_i s0 hp0
    split at h
    · rename_i s1 hpre
      refine wp_seq ((ih _ _ _ hp0).get hc0 hs0 fun a0 w0 hs1 => ?_)
      split at hcb
      · rename_i cp cq cx cy cz
        simp only [Bool.and_eq_true] at hcb
        obtain ⟨⟨⟨⟨hp, ho⟩, hx⟩, hy⟩, hz⟩ := hcb
        simp only [exitOf, Exit.then]
        refine wp_seq (wp_seq ((ih _ _ _ hpre).get hp hs1 fun a1 w1 hs1 => ?_))
        have way : ∀ {c : ACode} {code : Code}, chkCode P k.nt c code = true → fend k.af blks.length (thn (R c s1) fun s => R k.rest s) = some r →
            code.wp P (Exit.then (cz.wp P Q) Q) a1 w1 := by
          intro c code hc ht
          cases hR : R c s1 with
          | none => rw [hR] at ht; cases ht
          | some o =>
            obtain ⟨e, s2⟩ := o
            rw [hR] at ht
            refine (ih _ _ _ hR).get hc hs1 fun a' w' hs' => ?_
            cases e with
            | normal =>
              simp only [thn] at ht
              cases hR2 : R k.rest s2 with
              | none => rw [hR2] at ht; cases ht
              | some o2 =>
                obtain ⟨e2, s3⟩ := o2
                rw [hR2] at ht
                simp only [exitOf, Exit.then]
                refine (ih _ _ _ hR2).get hz hs' fun a' w' hs' => ?_
                cases e2 with
                | normal => exact fin .normal s3 a' w' (.inl rfl) ht hs'
                | ret => exact fin .ret s3 a' w' (.inr rfl) ht hs'
                | exit id => cases ht
            | exit id => cases ht
            | ret => exact fin .ret s2 a' w' (.inr rfl) ht hs'
        have hs1' := hs1
        obtain ⟨_, _, g, hi, hr, _⟩ := hs1'
        simp only [exitOf, Exit.then]
        split at h
        · rename_i b hb
          have hrel := ev_rel (s := ⟨s1.sto, g, w1⟩) (env := s1.env) hr hb ho
          generalize hv : a1.eval cq = v at hrel
          cases hrel with
          | p _ _ hrel =>
            cases hrel with
            | b =>
              refine wp_cond hv ?_
              cases b with
              | true => exact way hx (by simpa using h)
              | false => exact way hy (by simpa using h)
        · rename_i hb
          have hrel := ev_rel (s := ⟨s1.sto, g, w1⟩) (env := s1.env) hr hb ho
          generalize hv : a1.eval cq = v at hrel
          cases hrel with
          | unk t =>
            refine wp_cond hv ?_
            unfold sameR at h
            split at h
            · rename_i r1 r2 e1 e2
              split at h
              · rename_i he
                injection h with h; subst h
                cases t with
                | true => exact way hx e1
                | false => rw [← he] at e2; exact way hy e2
              · cases h
            · cases h
        · cases h
      · cases hcb
    · cases h
  · cases h

theorem callT_ok {R : ACode → St → Option Out} (ih : ∀ c s r, R c s = some r → CodeSim P c s r) (hT : ∀ f af, T f = some (.fn af) → chkFn P f af = true)
    (hP : ∀ f g, T f = some (.prim g) → ∀ args blks r, g args blks = some r → CallOk P f args blks r) (hK : ∀ f k, T f = some (.fork k) → chkFn P f k.af = true) : SoundF P (callT T R) := by
  intro f args blks r h
  unfold callT at h
  cases hTf : T f with
  | none => rw [hTf] at h; cases h
  | some en =>
    rw [hTf] at h
    cases en with
    | prim g => exact hP f g hTf args blks r h
    | fork k =>
      dsimp only at h
      split at h
      · rename_i hnp; exact callK_ok ih (hK f k hTf) hnp h
      · cases h
    | fn af =>
      dsimp only at h
      split at h
      · rename_i hnp
        have hc := hT f af hTf
        unfold chkFn at hc
        split at hc
        · cases hc
        · rename_i fn hfn
          split at hc
          · cases hc
          · rename_i code hb
            simp only [Bool.and_eq_true, beq_iff_eq, bne_iff_ne, ne_eq] at hc
            obtain ⟨⟨⟨hname, hnt⟩, hres⟩, hcode⟩ := hc
            refine ⟨⟨fn, hfn, by simp [hb], by simpa using hname⟩, fun g w vals hinv hlen hrel => ?_⟩
            refine calls_of_wp hfn hb ?_
            have hs0 : Sim af.nt ⟨blks, g, w⟩ ⟨enum 0 args, blks⟩ { tmps := vals ++ Array.replicate (fn.ntmps - vals.size) undef, defers := [] } w := by
              refine ⟨by simp; omega, rfl, g, hinv, fun n x hx => ?_, .refl _⟩
              obtain ⟨_, hx⟩ := enum_lk hx
              rw [Nat.sub_zero] at hx
              have hlt := lt_of_get hx
              refine ⟨vals[n]'(by omega), ?_, hrel n x _ hx (Array.getElem?_eq_getElem _)⟩
              rw [Array.getElem?_append_left (by omega)]; exact Array.getElem?_eq_getElem _
            have fin : ∀ {s}, finish af blks.length s = some r → ∀ a' w', Sim af.nt ⟨blks, g, w⟩ s a' w' → a'.defers = [] ∧ ∃ v, (results fn a'.tmps).run P w' = .ok v w' ∧ ∃ v' g', Ending.returned v = .returned v' ∧
                Inv ⟨r.2, g', w'⟩ ∧ Trans ⟨blks, g, w⟩ ⟨r.2, g', w'⟩ ∧ RelA ⟨r.2, g', w'⟩ r.1 v' := by
              intro s hfin a' w' hs
              obtain ⟨q1, v, q2, g', q3, q4, q5⟩ := finish_ok hs rfl hfin hres
              exact ⟨q1, v, q2, v, g', rfl, q3, q4, q5⟩
            split at h
            · rename_i s hR
              exact (ih _ _ _ hR).get hcode hs0 fun a' w' hs => fin h a' w' hs
            · rename_i s hR
              exact (ih _ _ _ hR).get hcode hs0 fun a' w' hs => fin h a' w' hs
            · cases h
      · cases h

theorem code_ok (hmix : P.follows .mixedOrders = true) (hT : ∀ f af, T f = some (.fn af) → chkFn P f af = true)
    (hP : ∀ f g, T f = some (.prim g) → ∀ args blks r, g args blks = some r → CallOk P f args blks r) (hK : ∀ f k, T f = some (.fork k) → chkFn P f k.af = true) : ∀ c s r, X T c s = some r → CodeSim P c s r := by
  refine X_pc T _ ?_
  intro R ih c s r h
  have hF : SoundF P (callT T R) := callT_ok ih hT hP hK
  cases c with
  | skip =>
    simp only [step] at h; injection h with h; subst h
    intro N code E a w Q hc hs next
    cases code <;> simp [chkCode] at hc
    exact wp_skip (next a w hs)
  | reg d pairs ins =>
    simp only [step] at h
    split at h
    · rename_i s' hreg
      injection h with h; subst h
      intro N code E a w Q hc hs next
      cases code <;> simp only [chkCode, Bool.false_eq_true] at hc
      simp only [Bool.and_eq_true, beq_iff_eq] at hc
      obtain ⟨rfl, hc⟩ := hc
      exact reg_ok hF hmix hreg hc hs next
    · cases h
  | seq x y =>
    simp only [step] at h
    intro N code E a w Q hc hs next
    cases code <;> simp only [chkCode, Bool.false_eq_true] at hc
    simp only [Bool.and_eq_true] at hc
    refine wp_seq ?_
    split at h
    · rename_i s' hx
      refine (ih _ _ _ hx).get hc.1 hs fun a' w' hs' => ?_
      exact (ih _ _ _ h).get hc.2 hs' next
    · rename_i hne
      refine (ih _ _ _ h).get hc.1 hs fun a' w' hs' => ?_
      obtain ⟨e, s'⟩ := r
      cases e with
      | normal => exact absurd h (by simpa using hne s')
      | exit id => exact next a' w' hs'
      | ret => exact next a' w' hs'
  | cond c x y =>
    simp only [step] at h
    intro N code E a w Q hc hs next
    cases code <;> simp only [chkCode, Bool.false_eq_true] at hc
    simp only [Bool.and_eq_true] at hc
    obtain ⟨⟨hco, hx⟩, hy⟩ := hc
    have hs' := hs
    obtain ⟨_, _, g, hi, hr, _⟩ := hs'
    split at h
    · rename_i b hb
      have hrel := ev_rel (s := ⟨s.sto, g, w⟩) (env := s.env) hr hb hco
      generalize hv : a.eval _ = v at hrel
      cases hrel with
      | p _ _ hrel =>
        cases hrel with
        | b =>
          refine wp_cond hv ?_
          cases b with
          | true => exact (ih _ _ _ (by simpa using h)).get hx hs next
          | false => exact (ih _ _ _ (by simpa using h)).get hy hs next
    · rename_i hb
      have hrel := ev_rel (s := ⟨s.sto, g, w⟩) (env := s.env) hr hb hco
      generalize hv : a.eval _ = v at hrel
      cases hrel with
      | unk t =>
        refine wp_cond hv ?_
        unfold same at h
        split at h
        · rename_i r1 r2 e1 e2
          split at h
          · rename_i he
            injection h with h; subst h
            cases t with
            | true => exact (ih _ _ _ e1).get hx hs next
            | false => rw [he] at next; exact (ih _ _ _ e2).get hy hs next
          · cases h
        · cases h
    · cases h
  | block id x =>
    simp only [step] at h
    intro N code E a w Q hc hs next
    cases code <;> simp only [chkCode, Bool.false_eq_true] at hc
    simp only [Bool.and_eq_true, beq_iff_eq] at hc
    obtain ⟨rfl, hc⟩ := hc
    refine wp_block ?_
    split at h
    · rename_i k s' hx
      refine (ih _ _ _ hx).get hc hs fun a' w' hs' => ?_
      simp only [exitOf, Exit.inBlock]
      split at h
      · rename_i e
        injection h with h; subst h
        rw [if_pos e]; exact next a' w' hs'
      · rename_i e
        injection h with h; subst h
        rw [if_neg e]; exact next a' w' hs'
    · rename_i hne
      refine (ih _ _ _ h).get hc hs fun a' w' hs' => ?_
      obtain ⟨e, s'⟩ := r
      cases e with
      | normal => exact next a' w' hs'
      | exit id => exact absurd h (by simpa using hne id s')
      | ret => exact next a' w' hs'
  | loop live x =>
    simp only [step] at h
    intro N code E a w Q hc hs next
    cases code <;> simp only [chkCode, Bool.false_eq_true] at hc
    split at h
    · rename_i s' hcl
      obtain ⟨k, hk⟩ := ih _ _ _ h
      have hE : E.σ.length ≤ s.sto.length := by obtain ⟨_, _, g, _, _, ht⟩ := hs; exact ht.len
      obtain ⟨hs', hl⟩ := clean_ok hs hcl hE (Nat.le_refl _)
      exact wp_loop_rounds k (hk N _ E a w Q hc hE (by omega) hs' next)
    · cases h
  | lp n live x =>
    simp only [step] at h
    split at h
    · rename_i s' hx
      split at h
      · rename_i s'' hcl
        obtain ⟨k, hk⟩ := ih _ _ _ h
        refine ⟨k + 1, fun N code E a w Q hc hE hn hs next => ?_⟩
        rw [rounds_succ]
        obtain ⟨h1, h2, g, hi, hr, ht⟩ := hs
        have hs0 : Sim N ⟨s.sto, g, w⟩ s a w := ⟨h1, h2, g, hi, hr, .refl _⟩
        refine (ih _ _ _ hx).get hc hs0 fun a' w' hs' => ?_
        obtain ⟨q1, q2, g', qi, qr, qt⟩ := hs'
        have hlen : s.sto.length ≤ s'.sto.length := qt.len
        have hsE : Sim N E s' a' w' := ⟨q1, q2, g', qi, qr, ht.trans qt⟩
        obtain ⟨hs2, hl⟩ := clean_ok hsE hcl hE (by omega)
        exact hk N code E a' w' Q hc hE (by omega) hs2 next
      · cases h
    · rename_i hne
      refine ⟨1, fun N code E a w Q hc hE hn hs next => ?_⟩
      rw [rounds_succ]
      refine (ih _ _ _ h).get hc hs fun a' w' hs' => ?_
      obtain ⟨e, s'⟩ := r
      cases e with
      | normal => exact absurd h (by simpa using hne s')
      | exit id => exact next a' w' hs'
      | ret => exact next a' w' hs'
  | scope x =>
    simp only [step] at h
    intro N code E a w Q hc hs next
    cases code <;> simp only [chkCode, Bool.false_eq_true] at hc
    refine wp_scope_straight ((ih _ _ _ h).get hc hs fun a' w' hs' => ?_)
    have := next a' w' hs'
    obtain ⟨e, s'⟩ := r
    cases e <;> exact this
  | exit id =>
    simp only [step] at h; injection h with h; subst h
    intro N code E a w Q hc hs next
    cases code <;> simp only [chkCode, Bool.false_eq_true] at hc
    simp only [beq_iff_eq] at hc; subst hc
    exact wp_exit (next a w hs)
  | ret =>
    simp only [step] at h; injection h with h; subst h
    intro N code E a w Q hc hs next
    cases code <;> simp only [chkCode, Bool.false_eq_true] at hc
    exact wp_ret (next a w hs)
  | keep live x =>
    simp only [step] at h
    intro N code E a w Q hc hs next
    exact (ih _ _ _ h).get (by simpa only [chkCode] using hc) (hs.restr live) next
  | tidy live x =>
    simp only [step, cleanO] at h
    intro N code E a w Q hc hs next
    split at h
    · rename_i e s2 he
      split at h
      · rename_i s3 hcl
        injection h with h; subst h
        obtain ⟨h1, h2, g, hi, hr, ht⟩ := hs
        have hs0 : Sim N ⟨s.sto, g, w⟩ s a w := ⟨h1, h2, g, hi, hr, .refl _⟩
        refine (ih _ _ _ he).get (by simpa only [chkCode] using hc) hs0 fun a' w' hs' => next a' w' ?_
        obtain ⟨q1, q2, g', qi, qr, qt⟩ := hs'
        exact (clean_ok (st := s2) (st' := s3) ⟨q1, q2, g', qi, qr, ht.trans qt⟩ hcl ht.len qt.len).1
      · cases h
    · cases h
  | br live pre o x y rest =>
    simp only [step] at h
    intro N code E a w Q hc hs next
    unfold chkCode at hc
    split at hc
    · rename_i cp cq cx cy cz
      simp only [Bool.and_eq_true] at hc
      obtain ⟨⟨⟨⟨hp, ho⟩, hx⟩, hy⟩, hz⟩ := hc
      split at h
      · rename_i s1 hpre
        refine wp_seq (wp_seq ((ih _ _ _ hpre).get hp hs fun a1 w1 hs1 => ?_))
        -- one of the two ways
        have way : ∀ {c : ACode} {code : Code} {r' : Out}, chkCode P N c code = true → thn (R c s1) (fun s => R rest s) = some r' →
            ∀ {E : Sn} {a : Act} {w : World} {Q : Exit → Act → World → Prop}, Sim N E s1 a w → (∀ a' w', Sim N E r'.2 a' w' → Q (exitOf r'.1) a' w') → code.wp P (Exit.then (cz.wp P Q) Q) a w := by
          intro c code r' hc ht E a w Q hs next
          cases hR : R c s1 with
          | none => rw [hR] at ht; cases ht
          | some o =>
            obtain ⟨e, s2⟩ := o
            rw [hR] at ht
            refine (ih _ _ _ hR).get hc hs fun a' w' hs' => ?_
            cases e with
            | normal => exact (ih _ _ _ ht).get hz hs' next
            | exit id => injection ht with ht; subst ht; exact next a' w' hs'
            | ret => injection ht with ht; subst ht; exact next a' w' hs'
        have cway : ∀ {c : ACode} {code : Code}, chkCode P N c code = true → cleanO s1.sto.length live (thn (R c s1) fun s => R rest s) = some r → code.wp P (Exit.then (cz.wp P Q) Q) a1 w1 := by
          intro c code hc ht
          unfold cleanO at ht
          split at ht
          · rename_i e s2 he
            split at ht
            · rename_i s3 hcl
              injection ht with ht; subst ht
              obtain ⟨h1, h2, g, hi, hr, ht⟩ := hs1
              have hs0 : Sim N ⟨s1.sto, g, w1⟩ s1 a1 w1 := ⟨h1, h2, g, hi, hr, .refl _⟩
              refine way hc he hs0 fun a' w' hs' => next a' w' ?_
              obtain ⟨q1, q2, g', qi, qr, qt⟩ := hs'
              exact (clean_ok (st := s2) (st' := s3) ⟨q1, q2, g', qi, qr, ht.trans qt⟩ hcl ht.len qt.len).1
            · cases ht
          · cases ht
        have hs1' := hs1
        obtain ⟨_, _, g, hi, hr, _⟩ := hs1'
        simp only [exitOf, Exit.then]
        split at h
        · rename_i b hb
          have hrel := ev_rel (s := ⟨s1.sto, g, w1⟩) (env := s1.env) hr hb ho
          generalize hv : a1.eval cq = v at hrel
          cases hrel with
          | p _ _ hrel =>
            cases hrel with
            | b =>
              refine wp_cond hv ?_
              cases b with
              | true => exact way hx (by simpa using h) hs1 next
              | false => exact way hy (by simpa using h) hs1 next
        · rename_i hb
          have hrel := ev_rel (s := ⟨s1.sto, g, w1⟩) (env := s1.env) hr hb ho
          generalize hv : a1.eval cq = v at hrel
          cases hrel with
          | unk t =>
            refine wp_cond hv ?_
            unfold same at h
            split at h
            · rename_i r1 r2 e1 e2
              split at h
              · rename_i he
                injection h with h; subst h
                cases t with
                | true => exact cway hx e1
                | false => rw [← he] at e2; exact cway hy e2
              · cases h
            · cases h
        · cases h
      · cases h
    · cases hc

/-- The abstract machine's answers are the program's. -/
theorem sound (hmix : P.follows .mixedOrders = true) (hT : ∀ f af, T f = some (.fn af) → chkFn P f af = true)
    (hP : ∀ f g, T f = some (.prim g) → ∀ args blks r, g args blks = some r → CallOk P f args blks r) (hK : ∀ f k, T f = some (.fork k) → chkFn P f k.af = true) : SoundF P (AF T) :=
  callT_ok (code_ok hmix hT hP hK) hT hP hK

end
end Go.Am
end

section
namespace Go.Am

@[congr] theorem thn_congr {o o' : Option Out} {k : St → Option Out} (h : o = o') : thn o k = thn o' k := by rw [h]
@[congr] theorem rbind_congr {α β : Type} {o o' : RM α} {f : α → RM β} (h : o = o') : o.bind f = o'.bind f := by rw [h]
@[congr] theorem obind_congr {α β : Type} {o o' : Option α} {f : α → Option β} (h : o = o') : o.bind f = o'.bind f := by rw [h]
@[simp] theorem thn_normal (s k) : thn (some (.normal, s)) k = k s := rfl
@[simp] theorem thn_exit (i s k) : thn (some (.exit i, s)) k = some (.exit i, s) := rfl
@[simp] theorem thn_ret (s k) : thn (some (.ret, s)) k = some (.ret, s) := rfl
@[simp] theorem thn_none (k) : thn none k = none := rfl

def thnN (o : Option Out) (k : St → Option Out) : Option Out :=
  match o with
  | some (.normal, s) => k s
  | _ => none

@[congr] theorem thnN_congr {o o' : Option Out} {k : St → Option Out} (h : o = o') : thnN o k = thnN o' k := by rw [h]
@[simp] theorem thnN_normal (s k) : thnN (some (.normal, s)) k = k s := rfl

def blo (id : Nat) (o : Option Out) : Option Out :=
  match o with
  | some (.exit k, s) => if k = id then some (.normal, s) else some (.exit k, s)
  | o => o

@[simp] theorem blo_normal (id s) : blo id (some (.normal, s)) = some (.normal, s) := rfl
@[simp] theorem blo_exit (id i s) : blo id (some (.exit i, s)) = if i = id then some (.normal, s) else some (.exit i, s) := rfl
@[simp] theorem blo_ret (id s) : blo id (some (.ret, s)) = some (.ret, s) := rfl
@[simp] theorem blo_none (id) : blo id none = none := rfl

def nrm (o : Option St) : Option Out := match o with
  | some s => some (.normal, s)
  | none => none

@[simp] theorem nrm_some (s) : nrm (some s) = some (.normal, s) := rfl
@[simp] theorem nrm_none : nrm none = none := rfl

def evv (x : Opd) (env : List (Nat × AV)) : Option AV := match x with
  | .t n => lk n env
  | .c v => some v

@[simp] theorem evv_t (n env) : evv (.t n) env = lk n env := rfl
@[simp] theorem evv_c (v env) : evv (.c v) env = some v := rfl

theorem run_ev (x : Opd) (s : St) : (ev x).run s = evv x s.env := by
  cases x with
  | t n => simp only [ev, RM.run, evv]; cases lk n s.env <;> rfl
  | c v => rfl

section
variable (T : Tabl)

@[simp ↓] theorem X_skip (s) : X T .skip s = some (.normal, s) := by rw [X_eq]; rfl
@[simp ↓] theorem X_seq (a b s) : X T (.seq a b) s = thn (X T a s) fun s => X T b s := by
  rw [X_eq]; simp only [step]
  cases X T a s with
  | none => rfl
  | some o => obtain ⟨e, s'⟩ := o; cases e <;> rfl
theorem X_reg (d ps ins s) : X T (.reg d ps ins) s = nrm (region (AF T) ps ins s) := by
  rw [X_eq]; simp only [step]
  show (match region (AF T) ps ins s with | some s' => some (AX.normal, s') | none => none) = _
  cases region (AF T) ps ins s <;> rfl

@[simp ↓] theorem X_reg0 (d ins env sto) : X T (.reg d [] ins) ⟨env, sto⟩ = nrm (runIns (AF T) ins sto.length ⟨env, room (news ins) sto⟩) := by
  rw [X_reg]; rfl

def cnd (x : Option AV) (a b : Option Out) (c : Unit → Option Out) : Option Out :=
  match x with
  | some (.p (.b x)) => if x = true then a else b
  | some .unk => c ()
  | _ => none
@[congr] theorem cnd_congr {x x' : Option AV} {a b : Option Out} {c : Unit → Option Out} (h : x = x') : cnd x a b c = cnd x' a b c := by rw [h]
@[simp] theorem cnd_b (x a b c) : cnd (some (.p (.b x))) a b c = if x = true then a else b := rfl
@[simp] theorem cnd_unk (a b c) : cnd (some .unk) a b c = c () := rfl

@[simp ↓] theorem X_cond (x a b s) : X T (.cond x a b) s = cnd (evv x s.env) (X T a s) (X T b s) fun _ => same (X T a s) (X T b s) := by
  rw [X_eq]; simp only [step, run_ev]
  cases evv x s.env with
  | none => rfl
  | some v =>
    cases v with
    | p c => cases c <;> rfl
    | _ => rfl
@[simp ↓] theorem X_block (id c s) : X T (.block id c) s = blo id (X T c s) := by
  rw [X_eq]; simp only [step]
  cases X T c s with
  | none => rfl
  | some o => obtain ⟨e, s'⟩ := o; cases e <;> rfl
@[simp ↓] theorem X_scope (c s) : X T (.scope c) s = X T c s := by rw [X_eq]; rfl
@[simp ↓] theorem X_exit (id s) : X T (.exit id) s = some (.exit id, s) := by rw [X_eq]; rfl
@[simp ↓] theorem X_ret (s) : X T .ret s = some (.ret, s) := by rw [X_eq]; rfl
@[simp ↓] theorem X_keep (live c s) : X T (.keep live c) s = X T c ⟨restr live s.env, s.sto⟩ := by rw [X_eq]; rfl
@[simp ↓] theorem X_br (live pre x a b rest s) : X T (.br live pre x a b rest) s = thnN (X T pre s) fun s1 =>
    cnd (evv x s1.env) (thn (X T a s1) fun s => X T rest s) (thn (X T b s1) fun s => X T rest s) fun _ =>
      same (cleanO s1.sto.length live (thn (X T a s1) fun s => X T rest s)) (cleanO s1.sto.length live (thn (X T b s1) fun s => X T rest s)) := by
  rw [X_eq]; simp only [step, run_ev]
  cases X T pre s with
  | none => rfl
  | some o =>
    obtain ⟨e, s1⟩ := o
    cases e with
    | normal =>
      dsimp only [thnN]
      cases evv x s1.env with
      | none => rfl
      | some v =>
        cases v with
        | p c => cases c <;> rfl
        | _ => rfl
    | exit => rfl
    | ret => rfl
@[simp ↓] theorem X_loop (live c env sto) : X T (.loop live c) ⟨env, sto⟩ = X T (.lp sto.length live c) ⟨restr live env, sto⟩ := by
  rw [X_eq]; simp [step, clean]
theorem X_lp (n live c s) : X T (.lp n live c) s = thn (X T c s) fun s => match clean n live s with
    | some s => X T (.lp n live c) s
    | none => none := by
  rw [X_eq]; simp only [step]
  cases X T c s with
  | none => rfl
  | some o => obtain ⟨e, s'⟩ := o; cases e <;> rfl

theorem clean_same (live env) (sto : List Blk) : clean sto.length live ⟨env, sto⟩ = some ⟨restr live env, sto⟩ := by simp [clean]

/-- A function's end. -/
def fino (res : List ARes) (fresh : Bool) (m : Nat) (o : Option Out) : Option Res :=
  match o with
  | some (.normal, s) => finish ⟨0, 0, .skip, res, fresh⟩ m s
  | some (.ret, s) => finish ⟨0, 0, .skip, res, fresh⟩ m s
  | _ => none
@[congr] theorem fino_congr {res : List ARes} {fresh : Bool} {m : Nat} {o o' : Option Out} (h : o = o') : fino res fresh m o = fino res fresh m o' := by rw [h]
@[simp] theorem fino_normal (res fresh m s) : fino res fresh m (some (.normal, s)) = finish ⟨0, 0, .skip, res, fresh⟩ m s := rfl
@[simp] theorem fino_ret (res fresh m s) : fino res fresh m (some (.ret, s)) = finish ⟨0, 0, .skip, res, fresh⟩ m s := rfl

theorem AF_fork {f : FuncId} {k : FkFn} (h : T f = some (.fork k)) (args blks) : AF T f args blks = if args.length = k.np then callK (X T) k args blks else none := by
  unfold AF callT; rw [h]

@[simp] theorem sameR_self (o : Option Res) : sameR o o = o := by unfold sameR; cases o <;> simp

theorem AF_fn {f : FuncId} {fn : AFn} (h : T f = some (.fn fn)) (args blks) : AF T f args blks = if args.length = fn.np then
    fino fn.res fn.fresh blks.length (X T fn.body ⟨enum 0 args, blks⟩)
  else none := by
  unfold AF callT; rw [h]; rfl

end

/-! ### Regions -/

variable {F : Orc} {env : List (Nat × AV)} {sto : List Blk} {new : Nat} {r : List AIns} {d : Nat}

@[simp] theorem runIns_nil (s) : runIns F [] new s = some s := rfl

theorem runIns_cons (i s) : runIns F (i :: r) new s = ((insR F i new).run s).bind fun e => runIns F r (new + newOf i.op) (put i.dst e s) := by
  simp only [runIns]; cases (insR F i new).run s <;> rfl

@[simp] theorem news_nil : news [] = 0 := rfl
@[simp ↓] theorem news_cons (i) : news (i :: r) = newOf i.op + news r := rfl
@[simp] theorem room_0 : room 0 sto = sto := rfl
@[simp] theorem room_succ (n) : room (n + 1) sto = sto ++ List.replicate (n + 1) .dead := rfl

@[simp] theorem lk_nil (n) : lk n [] = none := rfl
@[simp] theorem lk_cons (n m v) (r : List (Nat × AV)) : lk n ((m, v) :: r) = if n = m then some v else lk n r := rfl
attribute [simp ↓] runIns_cons insR opD deadR newOf run_bind run_ev opR
attribute [simp] put val evs evo ofCells ofPCells
  binP intP strP unP negB negU fz fz.fzL fz.fz1 fzs placeAll loadR storeR sub spl fieldP extrP lenP faddrP aaddrP iaddrR rowAt cutN boundOf sliceP sliceS sliceL rowsOf roomy appR mmP cellsOf unp fillAll partsR
  resR one enum undefV shiftP byteRow

@[simp] theorem same_self (o : Option Out) : same o o = o := by unfold same; cases o <;> simp

@[simp ↓] theorem run_ret {α : Type} (a : α) (s : St) : (RM.ret a).run s = some a := rfl
@[simp ↓] theorem run_fail {α : Type} (s : St) : (RM.fail : RM α).run s = none := rfl
@[simp ↓] theorem run_slot {α : Type} (n : Nat) (k : AV → RM α) (s : St) : (RM.slot n k).run s = (lk n s.env).bind fun v => (k v).run s := by simp only [RM.run]; cases lk n s.env <;> rfl
@[simp ↓] theorem run_blk {α : Type} (n : Nat) (k : Blk → RM α) (s : St) : (RM.blk n k).run s = (s.sto[n]?).bind fun v => (k v).run s := by simp only [RM.run]; cases s.sto[n]? <;> rfl
@[simp] theorem upd_nil : upd [] sto = sto := rfl
@[simp] theorem upd_cons (b x ws) : upd ((b, x) :: ws) sto = upd ws (sto.set b x) := rfl

@[simp] theorem restr_nil : restr [] env = [] := rfl
@[simp] theorem restr_cons (k l) : restr (k :: l) env = match lk k env with
    | some v => (k, v) :: restr l env
    | none => restr l env := rfl

end Go.Am

namespace Go.Am

/-! ### Calls with values alone -/

def plainA : AV → Bool
  | .p _ | .data _ | .cp _ _ | .unk => true
  | _ => false
@[simp] theorem plainA_p (c) : plainA (.p c) = true := rfl
@[simp] theorem plainA_data (c) : plainA (.data c) = true := rfl
@[simp] theorem plainA_cp (c o) : plainA (.cp c o) = true := rfl

theorem argsR_plain {s : St} : ∀ {args : List AV}, args.all plainA = true → (argsR args).run s = some (args, [])
  | [], _ => rfl
  | x :: r, h => by
    simp only [List.all_cons, Bool.and_eq_true] at h
    have := argsR_plain (s := s) h.2
    have h1 := h.1
    clear h
    cases x <;> simp [plainA] at h1 <;> simp [argsR, argR, this]

theorem ents_plain : ∀ {args : List AV} {l : List Ent}, args.all plainA = true → entsOf.entsOfL args l = l
  | [], l, _ => rfl
  | x :: r, l, h => by
    simp only [List.all_cons, Bool.and_eq_true] at h
    obtain ⟨h1, h2⟩ := h
    simp only [entsOf.entsOfL]
    cases x <;> simp [plainA] at h1 <;> simp only [entsOf] <;> exact ents_plain h2

theorem ren_plain {ρ : Ent → Option Nat} : ∀ {args : List AV}, args.all plainA = true → ren.renL ρ args = some args
  | [], _ => rfl
  | x :: r, h => by
    simp only [List.all_cons, Bool.and_eq_true] at h
    have := ren_plain (ρ := ρ) h.2
    have h1 := h.1
    clear h
    cases x <;> simp [plainA] at h1 <;> simp [ren.renL, ren, this]

theorem bk_plain {es : List Ent} {new : Nat} {x : AV} (h : plainA x = true) : bk es new x = some x := by
  cases x <;> simp [plainA] at h <;> rfl

theorem bkL_plain {es : List Ent} {new : Nat} : ∀ {xs : List AV}, xs.all plainA = true → bk.bkL es new xs = some xs
  | [], _ => rfl
  | x :: r, h => by
    simp only [List.all_cons, Bool.and_eq_true] at h
    simp [bk.bkL, bk_plain h.1, bkL_plain h.2]

/-- A call of values that answers values. -/
theorem callR_plain (F : Orc) (f : FuncId) {args : List AV} (new : Nat) (s : St) (h : args.all plainA = true) :
    (callR F f args 0 new).run s = match F f args [] with
      | some (v, []) => (bk [] new v).map fun v => ⟨v, []⟩
      | _ => none := by
  have e1 : entsOf.entsOfL args [] = [] := ents_plain h
  simp only [callR, run_bind, argsR_plain h, Option.bind_some, e1, extE, run_ret, List.map_nil, nodupB, if_true, ren_plain h, blksIn]
  cases F f args [] with
  | none => rfl
  | some r =>
    obtain ⟨v, bl⟩ := r
    cases bl with
    | nil =>
      simp only [List.length_nil, Nat.zero_add, if_true, List.drop_nil, blksNew, blksOut, run_bind, run_ret, Option.bind_some]
      cases bk [] new v <;> rfl
    | cons b bl => simp

@[simp] theorem bk_p (es new c) : bk es new (.p c) = some (.p c) := rfl
@[simp] theorem bk_data (es new c) : bk es new (.data c) = some (.data c) := rfl
@[simp] theorem bk_tup (es new l) : bk es new (.tup l) = (bk.bkL es new l).map .tup := by simp only [bk]; cases bk.bkL es new l <;> rfl
@[simp] theorem bkL_nil (es new) : bk.bkL es new [] = some [] := rfl
@[simp] theorem bkL_cons (es new x l) : bk.bkL es new (x :: l) = (bk es new x).bind fun y => (bk.bkL es new l).map fun l => y :: l := by
  simp only [bk.bkL]; cases bk es new x <;> simp; cases bk.bkL es new l <;> rfl

@[simp] theorem cleanO_none (n live) : cleanO n live none = none := rfl
@[simp] theorem cleanO_some (n live e s) : cleanO n live (some (e, s)) = (clean n live s).map fun s => (e, s) := by
  simp only [cleanO]; cases clean n live s <;> rfl

attribute [simp ↓] Option.bind_some Option.bind_none thn_normal thn_exit thn_ret thn_none thnN_normal nrm_some nrm_none cnd_b cnd_unk blo_normal blo_exit blo_ret blo_none fino_normal fino_ret runIns_nil lk_cons restr_cons upd_nil upd_cons
attribute [simp] clean finE finBs finB fin fin.finL finish outIds entsB entsOf entsOf.entsOfL addEnt nodupB pickB idxN unp

end Go.Am
end

section
namespace Go.Am

/-! ### Frames -/

inductive Fr where
  | sq (b : ACode)
  | bl (id : Nat)
  | td (n : Nat) (live : List Nat)
  | lo (n : Nat) (live : List Nat) (c : ACode)

noncomputable def again (T : Tabl) (n : Nat) (live : List Nat) (c : ACode) (o : Option St) : Option Out := match o with
  | some s => X T (.lp n live c) s
  | none => none

/-- What a function answers, when a part of its code has ended so, and the frames are left. -/
noncomputable def rk (T : Tabl) (f : AFn) (m : Nat) : List Fr → Option Out → Option Res
  | [], o => fino f.res f.fresh m o
  | .sq b :: k, o => rk T f m k (thn o fun s => X T b s)
  | .bl id :: k, o => rk T f m k (blo id o)
  | .td n live :: k, o => rk T f m k (cleanO n live o)
  | .lo n live c :: k, o => rk T f m k (thn o fun s => again T n live c (clean n live s))

section
variable (T : Tabl) (f : AFn) (m : Nat) (k : List Fr)

theorem rk_none : rk T f m k none = none := by
  induction k with
  | nil => rfl
  | cons x k ih => cases x <;> exact ih

theorem rk_skip (s) : rk T f m k (X T .skip s) = rk T f m k (some (.normal, s)) := by rw [X_skip]
theorem rk_seq (a b s) : rk T f m k (X T (.seq a b) s) = rk T f m (.sq b :: k) (X T a s) := by rw [X_seq]; rfl
theorem rk_reg (d ins env sto) : rk T f m k (X T (.reg d [] ins) ⟨env, sto⟩) = rk T f m k (nrm (runIns (AF T) ins sto.length ⟨env, room (news ins) sto⟩)) := by rw [X_reg0]
theorem rk_block (id c s) : rk T f m k (X T (.block id c) s) = rk T f m (.bl id :: k) (X T c s) := by rw [X_block]; rfl
theorem rk_scope (c s) : rk T f m k (X T (.scope c) s) = rk T f m k (X T c s) := by rw [X_scope]
theorem rk_exit (id s) : rk T f m k (X T (.exit id) s) = rk T f m k (some (.exit id, s)) := by rw [X_exit]
theorem rk_ret (s) : rk T f m k (X T .ret s) = rk T f m k (some (.ret, s)) := by rw [X_ret]
theorem rk_keep (live c env sto) : rk T f m k (X T (.keep live c) ⟨env, sto⟩) = rk T f m k (X T c ⟨restr live env, sto⟩) := by rw [X_keep]
theorem X_tidy (live c s) : X T (.tidy live c) s = cleanO s.sto.length live (X T c s) := by rw [X_eq]; rfl
theorem rk_tidy (live c env sto) : rk T f m k (X T (.tidy live c) ⟨env, sto⟩) = rk T f m (.td sto.length live :: k) (X T c ⟨env, sto⟩) := by rw [X_tidy]; rfl
theorem rk_loop (live c env sto) : rk T f m k (X T (.loop live c) ⟨env, sto⟩) = rk T f m k (X T (.lp sto.length live c) ⟨restr live env, sto⟩) := by rw [X_loop]
theorem rk_lp (n live c s) : rk T f m k (X T (.lp n live c) s) = rk T f m (.lo n live c :: k) (X T c s) := by
  rw [X_lp]; simp only [rk]
  congr 2
theorem rk_cond (x a b env sto) : rk T f m k (X T (.cond x a b) ⟨env, sto⟩) = rk T f m k (cnd (evv x env) (X T a ⟨env, sto⟩) (X T b ⟨env, sto⟩) fun _ => same (X T a ⟨env, sto⟩) (X T b ⟨env, sto⟩)) := by rw [X_cond]
theorem cnd_t (a b c) : cnd (some (.p (.b true))) a b c = a := rfl
theorem cnd_f (a b c) : cnd (some (.p (.b false))) a b c = b := rfl

theorem rk_sq_n (b s) : rk T f m (.sq b :: k) (some (.normal, s)) = rk T f m k (X T b s) := rfl
theorem rk_sq_e (b i s) : rk T f m (.sq b :: k) (some (.exit i, s)) = rk T f m k (some (.exit i, s)) := rfl
theorem rk_sq_r (b s) : rk T f m (.sq b :: k) (some (.ret, s)) = rk T f m k (some (.ret, s)) := rfl
theorem rk_bl_n (i s) : rk T f m (.bl i :: k) (some (.normal, s)) = rk T f m k (some (.normal, s)) := rfl
theorem rk_bl_e (i j s) : rk T f m (.bl i :: k) (some (.exit j, s)) = if j = i then rk T f m k (some (.normal, s)) else rk T f m k (some (.exit j, s)) := by
  simp only [rk, blo_exit]; split <;> rfl
theorem rk_bl_r (i s) : rk T f m (.bl i :: k) (some (.ret, s)) = rk T f m k (some (.ret, s)) := rfl
theorem rk_td (n live e s) : rk T f m (.td n live :: k) (some (e, s)) = rk T f m k ((clean n live s).map fun s => (e, s)) := by simp only [rk, cleanO_some]
theorem rk_lo_n (n live c s) : rk T f m (.lo n live c :: k) (some (.normal, s)) = rk T f m k (again T n live c (clean n live s)) := rfl
theorem rk_again (n live c s) : rk T f m k (again T n live c (some s)) = rk T f m k (X T (.lp n live c) s) := rfl
theorem rk_lo_e (n live c i s) : rk T f m (.lo n live c :: k) (some (.exit i, s)) = rk T f m k (some (.exit i, s)) := rfl
theorem rk_lo_r (n live c s) : rk T f m (.lo n live c :: k) (some (.ret, s)) = rk T f m k (some (.ret, s)) := rfl
theorem rk_nil_n (s) : rk T f m [] (some (.normal, s)) = finish ⟨0, 0, .skip, f.res, f.fresh⟩ m s := rfl
theorem rk_nil_r (s) : rk T f m [] (some (.ret, s)) = finish ⟨0, 0, .skip, f.res, f.fresh⟩ m s := rfl

theorem AF_rk {g : FuncId} {f : AFn} (h : T g = some (.fn f)) {args blks} (hl : args.length = f.np) : AF T g args blks = rk T f blks.length [] (X T f.body ⟨enum 0 args, blks⟩) := by
  rw [AF_fn T h, if_pos hl]; rfl

end

/-! ### Loops -/

open Classical in
/-- A loop: rounds until one ends it. -/
noncomputable def whileO {σ ρ : Type} (f : σ → Option (σ ⊕ ρ)) (s : σ) : Option ρ :=
  let it : Nat → σ → Option ρ := fun n => n.rec (fun _ => none) fun _ ih s => match f s with
    | some (.inl s') => ih s'
    | some (.inr r) => some r
    | none => none
  if h : ∃ n r, it n s = some r then it (Classical.choose h) s else none

def iterO {σ ρ : Type} (f : σ → Option (σ ⊕ ρ)) : Nat → σ → Option ρ
  | 0, _ => none
  | n + 1, s => match f s with
    | some (.inl s') => iterO f n s'
    | some (.inr r) => some r
    | none => none

section
variable {σ ρ : Type} {f : σ → Option (σ ⊕ ρ)}

theorem iter_eq (n : Nat) : ∀ s : σ, (Nat.rec (motive := fun _ => σ → Option ρ) (fun _ => none) (fun _ ih s => match f s with
    | some (.inl s') => ih s'
    | some (.inr r) => some r
    | none => none) n) s = iterO f n s := by
  induction n with
  | zero => intro s; rfl
  | succ n ih => intro s; simp only [iterO]; split <;> first | rfl | exact ih _

theorem iter_mono : ∀ {n : Nat} {s : σ} {r : ρ} (m : Nat), iterO f n s = some r → iterO f (n + m) s = some r
  | 0, _, _, _, h => by cases h
  | n + 1, s, r, m, h => by
    rw [show n + 1 + m = (n + m) + 1 by omega]
    simp only [iterO] at h ⊢
    split at h
    · exact iter_mono m h
    · exact h
    · cases h

theorem iter_det {n m : Nat} {s : σ} {r r' : ρ} (h : iterO f n s = some r) (h' : iterO f m s = some r') : r = r' := by
  have a := iter_mono m h
  have b := iter_mono n h'
  rw [Nat.add_comm m n] at b
  rw [a] at b; injection b

theorem while_iff {s : σ} {r : ρ} : whileO f s = some r ↔ ∃ n, iterO f n s = some r := by
  unfold whileO
  dsimp only
  constructor
  · intro h
    split at h
    · exact ⟨_, by rw [← iter_eq]; exact h⟩
    · cases h
  · rintro ⟨n, h⟩
    have hex : ∃ n r, (Nat.rec (motive := fun _ => σ → Option ρ) (fun _ => none) (fun _ ih s => match f s with
      | some (.inl s') => ih s'
      | some (.inr r) => some r
      | none => none) n) s = some r := ⟨n, r, by rw [iter_eq]; exact h⟩
    rw [dif_pos hex]
    obtain ⟨r', hr⟩ := Classical.choose_spec hex
    rw [hr]
    rw [iter_eq] at hr
    rw [iter_det hr h]

theorem while_done {s : σ} {r : ρ} (h : f s = some (.inr r)) : whileO f s = some r := while_iff.2 ⟨1, by simp only [iterO, h]⟩

theorem while_next {s s' : σ} (h : f s = some (.inl s')) : whileO f s = whileO f s' := by
  have key : ∀ r, whileO f s = some r ↔ whileO f s' = some r := by
    intro r
    rw [while_iff, while_iff]
    constructor
    · rintro ⟨n, hn⟩
      cases n with
      | zero => cases hn
      | succ n => simp only [iterO, h] at hn; exact ⟨n, hn⟩
    · rintro ⟨n, hn⟩
      exact ⟨n + 1, by simp only [iterO, h]; exact hn⟩
  cases hs : whileO f s with
  | some r => exact ((key r).1 hs).symm
  | none =>
    cases hs' : whileO f s' with
    | none => rfl
    | some r => rw [(key r).2 hs'] at hs; cases hs

theorem while_none {s : σ} (h : f s = none) : whileO f s = none := by
  cases hs : whileO f s with
  | none => rfl
  | some r =>
    obtain ⟨n, hn⟩ := while_iff.1 hs
    cases n with
    | zero => cases hn
    | succ n => simp only [iterO, h] at hn; cases hn

theorem while_eq (s : σ) : whileO f s = match f s with
    | some (.inl s') => whileO f s'
    | some (.inr r) => some r
    | none => none := by
  split
  · rename_i h; exact while_next h
  · rename_i h; exact while_done h
  · rename_i h; exact while_none h

theorem while_ind {P : σ → ρ → Prop} (h1 : ∀ s r, f s = some (.inr r) → P s r) (h2 : ∀ s s' r, f s = some (.inl s') → P s' r → P s r) {s : σ} {r : ρ} (h : whileO f s = some r) : P s r := by
  obtain ⟨n, hn⟩ := while_iff.1 h
  clear h
  induction n generalizing s with
  | zero => cases hn
  | succ n ih =>
    simp only [iterO] at hn
    split at hn
    · rename_i h; exact h2 _ _ _ h (ih hn)
    · rename_i h; injection hn with hn; subst hn; exact h1 _ _ h
    · cases hn

end

theorem ite_inv {α : Type} {c : Bool} {A B : Option α} {o : α} (h : (if c = true then A else B) = some o) : (c = true ∧ A = some o) ∨ (c = false ∧ B = some o) := by
  cases c with
  | true => exact .inl ⟨rfl, h⟩
  | false => exact .inr ⟨rfl, h⟩

end Go.Am
end

section
namespace Go.Am

/-! ### Operations on values with types -/

section
variable {α : Type}

def idx (l : List α) (n : Int) : Option α := if 0 ≤ n then l[n.toNat]? else none
def inb (k : Nat) (n : Int) : Option Unit := if 0 ≤ n ∧ n < k then some () else none
def appS (bytes : Nat) (l l' : List α) : Option (List α) := if roomy (l.length + l'.length) bytes = true then some (l ++ l') else none
def cloS (bytes : Nat) (l : List α) : Option (List α) := if roomy l.length bytes = true then some l else none
def mkS (bytes : Nat) (n m : Int) (z : α) : Option (List α) :=
  if 0 ≤ n ∧ n ≤ m ∧ bytes * m ≤ 281474976710656 ∧ m ≤ 281474976710656 then some (List.replicate n.toNat z) else none
def bndS (x : Option Int) (top dflt : Nat) : Option Nat := match x with
  | none => some dflt
  | some n => if 0 ≤ n ∧ n ≤ top then some n.toNat else none
def cutS (n : Nat) (lo hi : Option Int) : Option (Nat × Nat) := match bndS hi n n with
  | none => none
  | some h => match bndS lo h 0 with
    | none => none
    | some l => some (l, h)
def slcS (l : List α) (lo hi : Option Int) : Option (List α) := match cutS l.length lo hi with
  | some c => some ((l.drop c.1).take (c.2 - c.1))
  | none => none
def quoS (k : IntKind) (x y : Int) : Option Int := if y = 0 then none else some (k.wrap (x.tdiv y))
def remS (x y : Int) : Option Int := if y = 0 then none else some (x.tmod y)
def shlS (k : IntKind) (x y : Int) : Option Int := if y < 0 then none else some (k.wrap (x * 2 ^ (min y.toNat k.bits)))
def shrS (k : IntKind) (x y : Int) : Option Int := if y < 0 then none else some (x.fdiv (2 ^ (min y.toNat k.bits)))
def andI (k : IntKind) (x y : Int) : Int := k.wrap (BitVec.ofInt k.bits x &&& BitVec.ofInt k.bits y).toNat
def orI (k : IntKind) (x y : Int) : Int := k.wrap (BitVec.ofInt k.bits x ||| BitVec.ofInt k.bits y).toNat
def xorI (k : IntKind) (x y : Int) : Int := k.wrap (BitVec.ofInt k.bits x ^^^ BitVec.ofInt k.bits y).toNat
def notI (k : IntKind) (n : Int) : Int := k.wrap (BitVec.ofInt k.bits (if k.signed then -1 else k.max) ^^^ BitVec.ofInt k.bits n).toNat
def catS (a b : List UInt8) : Option (List UInt8) := if a.length + b.length ≤ 4611686018427387904 then some (a ++ b) else none
def sidS (l : List UInt8) (n : Int) : Option Int := if 0 ≤ n then (match l[n.toNat]? with | some u => some (u.toNat : Int) | none => none) else none
def vget {k : Nat} (v : Vector α k) (n : Int) : Option α := if 0 ≤ n ∧ n < k then v[n.toNat]? else none
def vset {k : Nat} (v : Vector α k) (n : Int) (x : α) : Vector α k := v.setIfInBounds n.toNat x
def toStr (l : List Int) : List UInt8 := l.map fun n => UInt8.ofNat n.toNat
def toByt (l : List UInt8) : List Int := l.map fun u => (u.toNat : Int)
def minI (x y : Int) : Int := if y < x then y else x
def maxI (x y : Int) : Int := if y > x then y else x

end

/-! ### Their cells -/

/-- Cells put together. -/
@[reducible] def cat (a b : List PV) : List PV := a ++ b

def r_i (k : IntKind) (n : Int) : List PV := [.i k n]
def r_b (x : Bool) : List PV := [.b x]
def r_s (l : List UInt8) : List PV := [.s l]
def r_sl {α : Type} (esz : Nat) (r : α → List PV) (l : List α) : List PV := [.sl esz (l.map r)]
theorem r_i_len (k : IntKind) (n : Int) : (r_i k n).length = 1 := rfl
theorem r_b_len (x : Bool) : (r_b x).length = 1 := rfl
theorem r_s_len (l : List UInt8) : (r_s l).length = 1 := rfl
theorem r_sl_len {α : Type} (esz : Nat) (r : α → List PV) (l : List α) : (r_sl esz r l).length = 1 := rfl

def e_ar {α : Type} {n : Nat} (r : α → List PV) (v : Vector α n) : List PV := (v.toList.map r).flatten

section
variable {α : Type}

theorem sub_def (cs : List α) (off size : Nat) : sub cs off size = if off + size ≤ cs.length then some ((cs.drop off).take size) else none := by
  unfold sub
  split
  · rename_i h
    obtain ⟨rfl, rfl⟩ := h
    simp
  · rfl

theorem spl_def (cs : List α) (off : Nat) (vs : List α) : spl cs off vs = if off + vs.length ≤ cs.length then some (cs.take off ++ vs ++ cs.drop (off + vs.length)) else none := by
  unfold spl
  split
  · rename_i h
    obtain ⟨rfl, h⟩ := h
    rw [if_pos (by omega)]
    simp [← h]
  · rfl

theorem sub_all {cs : List α} {n : Nat} (h : cs.length = n) : sub cs 0 n = some cs := by
  subst h; rw [sub_def]; simp

theorem spl_all {cs vs : List α} (h : cs.length = vs.length) : spl cs 0 vs = some vs := by
  rw [spl_def]; simp [h]

theorem sub_parts {a b c : List α} {off size : Nat} (h1 : a.length = off) (h2 : b.length = size) : sub (a ++ (b ++ c)) off size = some b := by
  subst h1 h2
  rw [sub_def, if_pos (by simp)]
  simp

theorem sub_parts0 {b c : List α} {size : Nat} (h2 : b.length = size) : sub (b ++ c) 0 size = some b := sub_parts (a := []) rfl h2
theorem sub_partsE {a b : List α} {off size : Nat} (h1 : a.length = off) (h2 : b.length = size) : sub (a ++ b) off size = some b := by
  have := sub_parts (c := []) h1 h2; simpa using this

theorem spl_parts {a b c v : List α} {off : Nat} (h1 : a.length = off) (h2 : b.length = v.length) : spl (a ++ (b ++ c)) off v = some (a ++ (v ++ c)) := by
  subst h1
  rw [spl_def, if_pos (by simp; omega), ← h2]
  simp

theorem spl_parts0 {b c v : List α} (h2 : b.length = v.length) : spl (b ++ c) 0 v = some (v ++ c) := spl_parts (a := []) rfl h2
theorem spl_partsE {a b v : List α} {off : Nat} (h1 : a.length = off) (h2 : b.length = v.length) : spl (a ++ b) off v = some (a ++ v) := by
  have := spl_parts (c := []) h1 h2; simpa using this

/-- A part of a part. -/
theorem sub_sub {cs ds r : List α} {a m k n : Nat} (h1 : sub cs a m = some ds) (h2 : sub ds k n = some r) : sub cs (a + k) n = some r := by
  rw [sub_def] at h1 h2 ⊢
  split at h1
  · injection h1 with h1; subst h1
    split at h2
    · rename_i h3 h4
      injection h2 with h2; subst h2
      simp at h4
      rw [if_pos (by omega), List.drop_take, List.take_take, List.drop_drop]
      congr 2
      omega
    · cases h2
  · cases h1

theorem spl_spl {cs ds ds' v cs' : List α} {a m k : Nat} (h1 : sub cs a m = some ds) (h2 : spl ds k v = some ds') (h3 : spl cs a ds' = some cs') : spl cs (a + k) v = some cs' := by
  rw [sub_def] at h1
  rw [spl_def] at h2 h3 ⊢
  split at h1
  · rename_i h4
    injection h1 with h1; subst h1
    split at h2
    · rename_i h5
      injection h2 with h2; subst h2
      simp at h5
      split at h3
      · injection h3 with h3; subst h3
        rw [if_pos (by omega)]
        congr 1
        simp only [List.length_append, List.length_take, List.length_drop, List.take_take, List.drop_take, List.drop_drop, List.append_assoc]
        have e1 : cs.take (a + k) = cs.take a ++ (cs.drop a).take k := List.take_add ..
        rw [e1, List.append_assoc]
        rw [show min k m = k by omega]
        congr 3
        have e2 : cs.drop (a + k + v.length) = (cs.drop (a + (k + v.length))).take (m - (k + v.length)) ++ cs.drop (a + m) := by
          have := List.take_append_drop (m - (k + v.length)) (cs.drop (a + (k + v.length)))
          rw [List.drop_drop] at this
          rw [show a + (k + v.length) + (m - (k + v.length)) = a + m by omega] at this
          rw [this]; congr 1; omega
        rw [e2]
        congr 2
        omega
      · cases h3
    · cases h2
  · cases h1

theorem sub_mapp {β : Type} (g : α → β) (cs : List α) (off size : Nat) : sub (cs.map g) off size = (sub cs off size).map (List.map g) := by
  rw [sub_def, sub_def]
  simp only [List.length_map]
  split <;> simp [List.map_drop, List.map_take]

theorem spl_mapp {β : Type} (g : α → β) (cs : List α) (off : Nat) (vs : List α) : spl (cs.map g) off (vs.map g) = (spl cs off vs).map (List.map g) := by
  rw [spl_def, spl_def]
  simp only [List.length_map]
  split <;> simp [List.map_drop, List.map_take]

theorem spl_mapp1 {β : Type} (g : α → β) (cs : List α) (off : Nat) (v : α) : spl (cs.map g) off [g v] = (spl cs off [v]).map (List.map g) := spl_mapp g cs off [v]

theorem ar_sub {n k w : Nat} {r : α → List PV} (hr : ∀ x, (r x).length = w) {v : Vector α n} {x : α} (h : v[k]? = some x) : sub (e_ar r v) (k * w) w = some (r x) := by
  have key : ∀ (l : List α) (k : Nat) (x : α), l[k]? = some x → sub ((l.map r).flatten) (k * w) w = some (r x) := by
    intro l
    induction l with
    | nil => intro k x h; simp at h
    | cons y l ih =>
      intro k x h
      cases k with
      | zero =>
        simp at h; subst h
        rw [Nat.zero_mul, List.map_cons, List.flatten_cons]
        exact sub_parts0 (hr _)
      | succ k =>
        simp at h
        have := ih k x h
        rw [List.map_cons, List.flatten_cons]
        rw [sub_def] at this ⊢
        split at this
        · injection this with this
          have e : (k + 1) * w = w + k * w := by rw [Nat.succ_mul]; omega
          rw [e, if_pos (by simp [hr]; simp at *; omega)]
          have e2 : w + k * w = (r y).length + k * w := by rw [hr]
          rw [e2, List.drop_length_add_append, this]
        · cases this
  exact key _ _ _ (by rw [← h]; simp)

theorem ar_spl {n k w : Nat} {r : α → List PV} (hr : ∀ x, (r x).length = w) {v : Vector α n} (h : k < n) (y : α) : spl (e_ar r v) (k * w) (r y) = some (e_ar r (v.setIfInBounds k y)) := by
  have key : ∀ (l : List α) (k : Nat), k < l.length → spl ((l.map r).flatten) (k * w) (r y) = some (((l.set k y).map r).flatten) := by
    intro l
    induction l with
    | nil => intro k h; simp at h
    | cons z l ih =>
      intro k h
      cases k with
      | zero =>
        rw [Nat.zero_mul, List.map_cons, List.flatten_cons]
        rw [spl_parts0 (by rw [hr, hr])]
        simp
      | succ k =>
        simp at h
        have := ih k h
        rw [List.map_cons, List.flatten_cons]
        rw [spl_def] at this ⊢
        split at this
        · rename_i hle
          injection this with this
          have e : (k + 1) * w = (r z).length + k * w := by rw [Nat.succ_mul, hr]; omega
          rw [e, if_pos (by simp [hr] at hle ⊢; omega)]
          simp only [List.set_cons_succ, List.map_cons, List.flatten_cons]
          rw [← this]
          rw [show (r z).length + k * w + (r y).length = (r z).length + (k * w + (r y).length) by omega]
          simp only [List.take_length_add_append, List.drop_length_add_append, List.append_assoc]
        · cases this
  have h2 := key v.toList k (by simpa using h)
  unfold e_ar
  rw [h2]
  congr 3
  simp [Vector.setIfInBounds, Vector.toList]

theorem ar_len {n w : Nat} {r : α → List PV} (hr : ∀ x, (r x).length = w) (v : Vector α n) : (e_ar r v).length = n * w := by
  have key : ∀ l : List α, ((l.map r).flatten).length = l.length * w := by
    intro l
    induction l with
    | nil => simp
    | cons x l ih => simp [ih, hr, Nat.succ_mul, Nat.add_comm]
  unfold e_ar
  rw [key]; simp

end

/-! ### Cells of values -/

theorem unp_mapp : ∀ l : List PV, unp (l.map AV.p) = some l
  | [] => rfl
  | x :: l => by simp [unp, unp_mapp l]

theorem ofCells_agg (l : List PV) : ofCells true (l.map AV.p) = some (.data l) := by simp [ofCells, unp_mapp]

theorem all_plain_mapp : ∀ l : List PV, (l.map AV.p).all plainA = true
  | [] => rfl
  | x :: l => by simp

theorem finL_mapp (m : Nat) (ids : List Nat) (sto : List Blk) : ∀ l : List PV, fin.finL m ids sto (l.map AV.p) = some (l.map AV.p)
  | [] => rfl
  | x :: l => by simp [fin.finL, fin, finL_mapp m ids sto l]

theorem ents_mapp (l : List PV) (acc : List Ent) : entsOf.entsOfL (l.map AV.p) acc = acc := ents_plain (all_plain_mapp l)

theorem rowAt_idx {α : Type} {r : α → List PV} {l : List α} {n : Int} {x : α} (h : idx l n = some x) : rowAt (l.map r) n = some (r x) := by
  unfold idx at h
  unfold rowAt
  split at h
  · rename_i h0
    rw [if_pos h0, List.getElem?_map, h]; rfl
  · cases h

theorem getq_idx {α : Type} {r : α → List PV} {l : List α} {n : Int} {x : α} (h : idx l n = some x) : (l.map r)[n.toNat]? = some (r x) := by
  unfold idx at h
  split at h
  · rw [List.getElem?_map, h]; rfl
  · cases h

theorem idx_inb {α : Type} {l : List α} {n : Int} {x : α} (h : idx l n = some x) : 0 ≤ n ∧ n.toNat < l.length := by
  unfold idx at h
  split at h
  · rename_i h0
    refine ⟨h0, ?_⟩
    have := List.getElem?_eq_some_iff.1 h
    exact this.1
  · cases h

theorem inb_iff {k : Nat} {n : Int} {u : Unit} (h : inb k n = some u) : 0 ≤ n ∧ n < k := by
  unfold inb at h
  split at h
  · assumption
  · cases h

theorem vget_iff {α : Type} {k : Nat} {v : Vector α k} {n : Int} {x : α} (h : vget v n = some x) : (0 ≤ n ∧ n < k) ∧ v[n.toNat]? = some x := by
  unfold vget at h
  split at h
  · exact ⟨by assumption, h⟩
  · cases h

theorem vget_lt {α : Type} {k : Nat} {v : Vector α k} {n : Int} {x : α} (h : vget v n = some x) : n.toNat < k := by
  have := (vget_iff h).1; omega

theorem appR_ok {α : Type} {r : α → List PV} {esz bytes b : Nat} {w : Bool} {l l' l2 : List α} {y : AV} {s : St} (h : appS bytes l l2 = some l') (hb : s.sto[b]? = some (.arr w esz (l.map r))) (hy : (rowsOf esz y).run s = some (l2.map r)) :
    (appR esz bytes (.slr b 0 l.length) y).run s = some ⟨.slr b 0 l'.length, [(b, .arr w esz (l'.map r))]⟩ := by
  unfold appS at h
  split at h
  · rename_i hr
    injection h with h; subst h
    simp only [appR, run_blk, hb, Option.bind_some, run_bind, hy]
    rw [if_pos ⟨by trivial, by trivial, by simp, by simpa using hr⟩]
    simp [run_ret]
  · cases h

theorem bytesOf_ok : ∀ l : List Int, bytesOf (l.map (r_i .u8)) = some (toStr l)
  | [] => rfl
  | x :: l => by simp [bytesOf, r_i, bytesOf_ok l, toStr]

theorem byteRows (l : List UInt8) : l.map byteRow = (toByt l).map (r_i .u8) := by simp [toByt, byteRow, r_i, Function.comp_def]

theorem cloS_iff {α : Type} {bytes : Nat} {l l' : List α} (h : cloS bytes l = some l') : roomy l.length bytes = true ∧ l' = l := by
  unfold cloS at h
  split at h
  · injection h with h; exact ⟨by assumption, h.symm⟩
  · cases h

theorem mkS_iff {α : Type} {bytes : Nat} {n m : Int} {z : α} {l : List α} (h : mkS bytes n m z = some l) : (0 ≤ n ∧ n ≤ m ∧ bytes * m ≤ 281474976710656 ∧ m ≤ 281474976710656) ∧ l = List.replicate n.toNat z := by
  unfold mkS at h
  split at h
  · injection h with h; exact ⟨by assumption, h.symm⟩
  · cases h

theorem bnd_run {x : Option Int} {k : IntKind} {top d : Nat} : boundOf (x.map fun n => AV.p (.i k n)) top d = bndS x top d := by
  cases x <;> rfl

theorem cut_run {k : IntKind} {n : Nat} {lo hi : Option Int} : cutN n (lo.map fun n => AV.p (.i k n)) (hi.map fun n => AV.p (.i k n)) = cutS n lo hi := by
  unfold cutN cutS
  rw [bnd_run]
  cases bndS hi n n with
  | none => rfl
  | some h => simp only [bnd_run]; cases bndS lo h 0 <;> rfl

theorem sliceL_ok {α : Type} {r : α → List PV} {esz : Nat} {k : IntKind} {l l' : List α} {lo hi : Option Int} (h : slcS l lo hi = some l') :
    sliceL esz (.p (.sl esz (l.map r))) (lo.map fun n => AV.p (.i k n)) (hi.map fun n => AV.p (.i k n)) = some (.p (.sl esz (l'.map r))) := by
  unfold slcS at h
  simp only [sliceL, if_true, List.length_map, cut_run]
  split at h
  · rename_i c hc
    injection h with h; subst h
    rw [hc]; simp [List.map_drop, List.map_take]
  · cases h

theorem sliceS_ok {k : IntKind} {l l' : List UInt8} {lo hi : Option Int} (h : slcS l lo hi = some l') :
    sliceS (.p (.s l)) (lo.map fun n => AV.p (.i k n)) (hi.map fun n => AV.p (.i k n)) = some (.p (.s l')) := by
  unfold slcS at h
  simp only [sliceS, cut_run]
  split at h
  · rename_i c hc
    injection h with h; subst h
    rw [hc]
  · cases h

/-! ### Calls -/

def callR2 (F : Orc) (f : FuncId) (a : List AV × List (Nat × Blk)) (k new : Nat) : RM Eff :=
  (extE a.2 (entsOf.entsOfL a.1 []) (entsOf.entsOfL a.1 [])).bind fun es1 =>
  (extE a.2 es1 es1).bind fun es =>
  if nodupB (es.map Ent.id) then
    match ren.renL (fun e => entAt e es 0) a.1 with
    | none => .fail
    | some args' => (blksIn a.2 (fun e => entAt e es 0) es).bind fun blks =>
      match F f args' blks with
      | none => .fail
      | some r => if r.2.length = es.length + k then
          match bk es new r.1, blksNew es new new (r.2.drop es.length) with
          | some v, some fresh => (blksOut a.2 es new es r.2).bind fun back => .ret ⟨v, a.2 ++ back ++ fresh⟩
          | _, _ => .fail
        else .fail
  else .fail

theorem callR_2 (F : Orc) (f : FuncId) (args : List AV) (k new : Nat) : callR F f args k new = (argsR args).bind fun a => callR2 F f a k new := rfl

def plainR : AV → Bool
  | .tup l => l.all plainA
  | v => plainA v

theorem bk_plainR {es : List Ent} {new : Nat} {v : AV} (h : plainR v = true) : bk es new v = some v := by
  cases v with
  | tup l => simp only [plainR] at h; simp [bk, bkL_plain h]
  | _ => exact bk_plain h

theorem callR2_plain {F : Orc} {f : FuncId} {args : List AV} {v : AV} (hp : args.all plainA = true) (hF : F f args [] = some (v, [])) (hv : plainR v = true) (ws : List (Nat × Blk)) (new : Nat) (s : St) :
    (callR2 F f (args, ws) 0 new).run s = some ⟨v, ws⟩ := by
  have e1 : entsOf.entsOfL args [] = [] := ents_plain hp
  simp only [callR2, run_bind, e1, extE, run_ret, Option.bind_some, List.map_nil, nodupB, if_true, ren_plain hp, blksIn, hF, List.length_nil, Nat.zero_add, List.drop_nil, blksNew, blksOut, bk_plainR hv, List.append_nil]

theorem callR2_new {F : Orc} {f : FuncId} {args : List AV} {cs : List AV} (hp : args.all plainA = true) (hF : F f args [] = some (.ptr 0 0, [.box cs])) (hc : cs.all plainA = true) (ws : List (Nat × Blk)) (new : Nat) (s : St) :
    (callR2 F f (args, ws) 1 new).run s = some ⟨.ptr new 0, ws ++ [(new, .box cs)]⟩ := by
  have e1 : entsOf.entsOfL args [] = [] := ents_plain hp
  simp [callR2, run_bind, e1, extE, run_ret, nodupB, ren_plain hp, blksIn, hF, blksNew, blksOut, bk, bkL_plain hc]

theorem callR2_arr {F : Orc} {f : FuncId} {args : List AV} {n esz : Nat} {w : Bool} {rows : List (List PV)} (hp : args.all plainA = true) (hF : F f args [] = some (.slr 0 0 n, [.arr w esz rows])) (ws : List (Nat × Blk)) (new : Nat) (s : St) :
    (callR2 F f (args, ws) 1 new).run s = some ⟨.slr new 0 n, ws ++ [(new, .arr w esz rows)]⟩ := by
  have e1 : entsOf.entsOfL args [] = [] := ents_plain hp
  simp [callR2, run_bind, e1, extE, run_ret, nodupB, ren_plain hp, blksIn, hF, blksNew, blksOut, bk]

theorem callR2_ptr {F : Orc} {f : FuncId} {b o : Nat} {args : List AV} {cs cs' : List AV} {v : AV} (hp : args.all plainA = true) (hc : cs.all plainA = true) (hF : F f (.ptr 0 o :: args) [.box cs] = some (v, [.box cs'])) (hv : plainR v = true) (hc' : cs'.all plainA = true)
    (ws : List (Nat × Blk)) (new : Nat) (s : St) (hb : (getB ws b).run s = some (.box cs)) :
    (callR2 F f (.ptr b o :: args, ws) 0 new).run s = some ⟨v, ws ++ [(b, .box cs')]⟩ := by
  have e1 : entsOf.entsOfL (.ptr b o :: args) [] = [.whole b] := by
    simp only [entsOf.entsOfL, entsOf, addEnt, List.any_nil, Bool.false_eq_true, if_false, List.nil_append]
    exact ents_plain hp
  have e2 : (extE ws [.whole b] [.whole b]).run s = some [.whole b] := by
    simp only [extE, run_bind, hb, Option.bind_some, ents_plain hc, run_ret]
  have e3 : (blksIn ws (fun e => entAt e [Ent.whole b] 0) [Ent.whole b]).run s = some [.box cs] := by
    simp only [blksIn, run_bind, blkIn, hb, Option.bind_some, ren_plain hc, run_ret]
  have e4 : ren.renL (fun e => entAt e [Ent.whole b] 0) (.ptr b o :: args) = some (.ptr 0 o :: args) := by
    simp [ren.renL, ren, entAt, ren_plain hp]
  have n1 : nodupB ([Ent.whole b].map Ent.id) = true := rfl
  simp only [callR2, run_bind, e1, e2, Option.bind_some, n1, if_true, e4, e3, hF, List.length_cons, List.length_nil, Nat.zero_add, Nat.add_zero, List.drop_succ_cons, List.drop_zero, blksNew, blksOut, blkOut, bk_plainR hv, bkL_plain hc', run_ret, List.append_nil]

/-- Boxes of plain cells, by their blocks. -/
def boxesAt (ws : List (Nat × Blk)) (s : St) : List Nat → List (List AV) → Prop
  | [], [] => True
  | b :: bs, cs :: css => (getB ws b).run s = some (.box cs) ∧ boxesAt ws s bs css
  | _, _ => False

def allPlain (css : List (List AV)) : Bool := css.all fun cs => cs.all plainA

theorem ext_boxes {ws : List (Nat × Blk)} {s : St} : ∀ {bs : List Nat} {css : List (List AV)} {acc : List Ent}, boxesAt ws s bs css → allPlain css = true → (extE ws (bs.map .whole) acc).run s = some acc
  | [], [], _, _, _ => rfl
  | b :: bs, cs :: css, acc, h, hp => by
    simp only [allPlain, List.all_cons, Bool.and_eq_true] at hp
    simp only [List.map_cons, extE, run_bind, h.1, Option.bind_some, ents_plain hp.1]
    exact ext_boxes h.2 hp.2

theorem in_boxes {ws : List (Nat × Blk)} {s : St} {ρ : Ent → Option Nat} : ∀ {bs : List Nat} {css : List (List AV)}, boxesAt ws s bs css → allPlain css = true → (blksIn ws ρ (bs.map .whole)).run s = some (css.map .box)
  | [], [], _, _ => rfl
  | b :: bs, cs :: css, h, hp => by
    simp only [allPlain, List.all_cons, Bool.and_eq_true] at hp
    simp only [List.map_cons, blksIn, run_bind, blkIn, h.1, Option.bind_some, ren_plain hp.1, run_ret, in_boxes h.2 hp.2]

theorem out_boxes {ws : List (Nat × Blk)} {s : St} {es : List Ent} {new : Nat} : ∀ {bs : List Nat} {css : List (List AV)}, bs.length = css.length → allPlain css = true → (blksOut ws es new (bs.map .whole) (css.map .box)).run s = some (bs.zip (css.map .box))
  | [], [], _, _ => rfl
  | b :: bs, cs :: css, h, hp => by
    simp only [allPlain, List.all_cons, Bool.and_eq_true] at hp
    simp only [List.map_cons, blksOut, run_bind, blkOut, bkL_plain hp.1, run_ret, Option.bind_some, out_boxes (bs := bs) (css := css) (by simpa using h) hp.2, List.zip_cons_cons]
  | [], _ :: _, h, _ => by simp at h
  | _ :: _, [], h, _ => by simp at h

/-- A call with pointers to boxes of plain cells, each box once. -/
theorem callR2_ptrs {F : Orc} {f : FuncId} {args args' : List AV} {bs : List Nat} {css css' : List (List AV)} {v : AV} (he : entsOf.entsOfL args [] = bs.map .whole) (hn : nodupB bs = true)
    (hr : ren.renL (fun e => entAt e (bs.map .whole) 0) args = some args') (hp : allPlain css = true) (hF : F f args' (css.map .box) = some (v, css'.map .box)) (hl : bs.length = css'.length) (hv : plainR v = true) (hp' : allPlain css' = true)
    (ws : List (Nat × Blk)) (new : Nat) (s : St) (hb : boxesAt ws s bs css) : (callR2 F f (args, ws) 0 new).run s = some ⟨v, ws ++ bs.zip (css'.map .box)⟩ := by
  have e0 : (bs.map Ent.whole).map Ent.id = bs := by rw [List.map_map]; exact List.map_id bs
  have e1 : (css'.map Blk.box).length = (bs.map Ent.whole).length + 0 := by simp [hl]
  have e2 : (css'.map Blk.box).drop (bs.map Ent.whole).length = [] := by simp [hl]
  simp only [callR2, run_bind, he, ext_boxes hb hp, Option.bind_some, e0, hn, if_true, hr, in_boxes hb hp, hF, e1, e2, bk_plainR hv, blksNew, out_boxes hl hp', run_ret, List.append_nil]

end Go.Am
end

