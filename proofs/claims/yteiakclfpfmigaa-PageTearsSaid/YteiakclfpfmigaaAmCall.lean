/-
  The abstract machine: calls.
-/
import Derived.Test.YteiakclfpfmigaaAmCut
set_option linter.unusedSimpArgs false
set_option linter.unusedVariables false
namespace Go.Am

/-- What a call of f owes. -/
def CallOk (P : Program) (f : FuncId) (args : List AV) (blks : List Blk) (r : Res) : Prop :=
  (∃ fn, P.funcs[f]? = some fn ∧ fn.body.isSome = true ∧ (fn.name == "runtime.NumGoroutine") = false) ∧
  ∀ (g : Gh) (w : World) (vals : Array Value), Inv ⟨blks, g, w⟩ → args.length = vals.size → (∀ (i : Nat) x v, args[i]? = some x → vals[i]? = some v → RelA ⟨blks, g, w⟩ x v) →
    Calls P f vals w fun e w' => ∃ v g', e = .returned v ∧ Inv ⟨r.2, g', w'⟩ ∧ Trans ⟨blks, g, w⟩ ⟨r.2, g', w'⟩ ∧ RelA ⟨r.2, g', w'⟩ r.1 v

def SoundF (P : Program) (F : Orc) : Prop := ∀ f args blks r, F f args blks = some r → CallOk P f args blks r

theorem entAt_some {e : Ent} : ∀ {es : List Ent} {k j : Nat}, entAt e es k = some j → k ≤ j ∧ es[j - k]? = some e
  | [], k, j, h => by simp [entAt] at h
  | x :: r, k, j, h => by
    simp only [entAt] at h
    split at h
    · rename_i hx; injection h with h; subst h; exact ⟨Nat.le_refl _, by simp [hx]⟩
    · obtain ⟨h1, h2⟩ := entAt_some h
      refine ⟨by omega, ?_⟩
      rw [show j - k = (j - (k + 1)) + 1 by omega]
      simpa using h2

theorem renL_some {ρ : Ent → Option Nat} : ∀ {xs ys : List AV}, ren.renL ρ xs = some ys → xs.length = ys.length ∧ ∀ (i : Nat) x y, xs[i]? = some x → ys[i]? = some y → ren ρ x = some y
  | [], ys, h => by simp [ren.renL] at h; subst h; exact ⟨rfl, fun i x y h => by simp at h⟩
  | x :: xs, ys, h => by
    simp only [ren.renL] at h
    split at h
    · rename_i y l hy hl
      injection h with h; subst h
      obtain ⟨h1, h2⟩ := renL_some hl
      refine ⟨by simp [h1], fun i a b ha hb => ?_⟩
      cases i with
      | zero => simp at ha hb; subst ha hb; exact hy
      | succ i => exact h2 i a b (by simpa using ha) (by simpa using hb)
    · cases h

theorem bkL_some {es : List Ent} {new : Nat} : ∀ {xs ys : List AV}, bk.bkL es new xs = some ys → xs.length = ys.length ∧ ∀ (i : Nat) x y, xs[i]? = some x → ys[i]? = some y → bk es new x = some y
  | [], ys, h => by simp [bk.bkL] at h; subst h; exact ⟨rfl, fun i x y h => by simp at h⟩
  | x :: xs, ys, h => by
    simp only [bk.bkL] at h
    split at h
    · rename_i y l hy hl
      injection h with h; subst h
      obtain ⟨h1, h2⟩ := bkL_some hl
      refine ⟨by simp [h1], fun i a b ha hb => ?_⟩
      cases i with
      | zero => simp at ha hb; subst ha hb; exact hy
      | succ i => exact h2 i a b (by simpa using ha) (by simpa using hb)
    · cases h

/-- The callee's block of an entry. -/
def InOk (s : Sn) (ρ : Ent → Option Nat) (e : Ent) (x : Blk) : Prop :=
  match e with
  | .whole b => (∃ cs l, s.σ[b]? = some (.box cs) ∧ ren.renL ρ cs = some l ∧ x = .box l) ∨ (∃ w esz rows, s.σ[b]? = some (.arr w esz rows) ∧ x = .arr w esz rows)
  | .elem b ext i => ∃ esz rows row, s.σ[b]? = some (.arr true esz rows) ∧ ext = rows.length ∧ rows[i]? = some row ∧ x = .box (row.map .p)

section
variable {s : Sn} {env : List (Nat × AV)}

theorem getB_rel {σ0 : List Blk} {ws : List (Nat × Blk)} {b : Nat} {x : Blk} (h : (getB ws b).run ⟨env, σ0⟩ = some x) : (upd ws σ0)[b]? = some x := by
  simp only [getB, RM.run] at h
  split at h
  · rename_i y hy
    have hlt := lt_of_get hy
    rw [upd_get _ _ _ hlt]
    split at h
    · rename_i z hz; simp only [RM.run] at h; injection h with h; subst h; simp [hz]
    · rename_i hz; simp only [RM.run] at h; injection h with h; subst h; simp [hz]; exact hy
  · cases h

theorem blkIn_rel {σ0 : List Blk} {ws : List (Nat × Blk)} (hσ : s.σ = upd ws σ0) {ρ : Ent → Option Nat} {e : Ent} {x : Blk} (h : (blkIn ws ρ e).run ⟨env, σ0⟩ = some x) : InOk s ρ e x := by
  cases e with
  | whole b =>
    simp only [blkIn] at h
    obtain ⟨y, h1, h⟩ := bind_some h
    have hb := getB_rel h1
    rw [← hσ] at hb
    cases y with
    | dead => cases h
    | box cs =>
      dsimp only at h
      split at h
      · rename_i l hl
        simp only [RM.run] at h; injection h with h; subst h
        exact .inl ⟨cs, l, hb, hl, rfl⟩
      · cases h
    | arr w esz rows =>
      simp only [RM.run] at h; injection h with h; subst h
      exact .inr ⟨w, esz, rows, hb, rfl⟩
  | elem b ext i =>
    simp only [blkIn] at h
    obtain ⟨y, h1, h⟩ := bind_some h
    have hb := getB_rel h1
    rw [← hσ] at hb
    cases y with
    | arr w esz rows =>
      cases w
      · cases h
      · dsimp only at h
        split at h
        · rename_i he
          split at h
          · rename_i row hrow
            simp only [RM.run] at h; injection h with h; subst h
            exact ⟨esz, rows, row, hb, he, hrow, rfl⟩
          · cases h
        · cases h
    | _ => cases h

theorem blksIn_rel {σ0 : List Blk} {ws : List (Nat × Blk)} (hσ : s.σ = upd ws σ0) {ρ : Ent → Option Nat} : ∀ {es : List Ent} {blks : List Blk}, (blksIn ws ρ es).run ⟨env, σ0⟩ = some blks →
    es.length = blks.length ∧ ∀ (k : Nat) e x, es[k]? = some e → blks[k]? = some x → InOk s ρ e x
  | [], blks, h => by simp only [blksIn, RM.run] at h; injection h with h; subst h; exact ⟨rfl, fun k e x h => by simp at h⟩
  | e :: es, blks, h => by
    simp only [blksIn] at h
    obtain ⟨x, h1, h⟩ := bind_some h
    obtain ⟨l, h2, h⟩ := bind_some h
    simp only [RM.run] at h; injection h with h; subst h
    obtain ⟨k1, k2⟩ := blksIn_rel hσ h2
    refine ⟨by simp [k1], fun k e' x' he hx => ?_⟩
    cases k with
    | zero => simp at he hx; subst he hx; exact blkIn_rel hσ h1
    | succ k => exact k2 k e' x' (by simpa using he) (by simpa using hx)

/-- The callee's state. -/
def inSn (s : Sn) (es : List Ent) (blks : List Blk) : Sn :=
  ⟨blks, ⟨fun k => match es[k]? with
    | some (.whole b) => s.g.μ b
    | some (.elem b _ i) => (match s.σ[b]? with
      | some (.arr _ esz _) => (match s.g.μ b with
        | some p => some (p.1, i * esz)
        | none => none)
      | _ => none)
    | none => none, s.g.C⟩, s.w⟩

structure CallIn (s : Sn) (es : List Ent) (blks : List Blk) : Prop where
  inv : Inv s
  nodup : (es.map Ent.id).Nodup
  len : es.length = blks.length
  blk : ∀ (k : Nat) e x, es[k]? = some e → blks[k]? = some x → InOk s (fun e => entAt e es 0) e x

variable {es : List Ent} {blks : List Blk} (h : CallIn s es blks)

include h in
theorem in_at {k : Nat} {e : Ent} (he : es[k]? = some e) : ∃ x, blks[k]? = some x ∧ InOk s (fun e => entAt e es 0) e x := by
  have hlt := lt_of_get he
  have : k < blks.length := by rw [← h.len]; exact hlt
  exact ⟨blks[k], List.getElem?_eq_getElem this, h.blk k e _ he (List.getElem?_eq_getElem this)⟩

theorem in_μ_whole {k b : Nat} (he : es[k]? = some (.whole b)) : (inSn s es blks).g.μ k = s.g.μ b := by simp [inSn, he]

theorem in_μ_elem {k b ext i esz : Nat} {wm rows r} (he : es[k]? = some (.elem b ext i)) (hb : s.σ[b]? = some (.arr wm esz rows)) (hm : s.g.μ b = some (r, 0)) : (inSn s es blks).g.μ k = some (r, i * esz) := by
  simp [inSn, he, hb, hm]

include h in
theorem in_rel {x y : AV} {v : Value} (hr : RelA s x v) : ren (fun e => entAt e es 0) x = some y → RelA (inSn s es blks) y v := by
  induction hr generalizing y with
  | p c v hp => intro hf; simp [ren] at hf; subst hf; exact .p _ _ hp
  | data cs vs h1 h2 => intro hf; simp [ren] at hf; subst hf; exact .data _ _ h1 h2
  | cp cs off r o vals p1 p2 => intro hf; simp [ren] at hf; subst hf; exact .cp cs off r o vals p1 p2
  | unk x => intro hf; simp [ren] at hf; subst hf; exact .unk x
  | agg cs vs h1 h0 h2 ih =>
    intro hf
    simp only [ren] at hf
    obtain ⟨l, hl, rfl⟩ := Option.map_eq_some_iff.1 hf
    obtain ⟨k1, k2⟩ := renL_some hl
    refine .agg _ _ (by omega) h0 fun i y v hy hv => ?_
    have hlt := lt_of_get hy
    have hx : cs[i]? = some (cs[i]'(by omega)) := List.getElem?_eq_getElem _
    exact ih i _ v hx hv (k2 i _ y hx hy)
  | tup cs vs h1 h2 ih =>
    intro hf
    simp only [ren] at hf
    obtain ⟨l, hl, rfl⟩ := Option.map_eq_some_iff.1 hf
    obtain ⟨k1, k2⟩ := renL_some hl
    refine .tup _ _ (by omega) fun i y v hy hv => ?_
    have hlt := lt_of_get hy
    have hx : cs[i]? = some (cs[i]'(by omega)) := List.getElem?_eq_getElem _
    exact ih i _ v hx hv (k2 i _ y hx hy)
  | ptr b off r o hm hb =>
    intro hf
    simp only [ren] at hf
    obtain ⟨k, hk, rfl⟩ := Option.map_eq_some_iff.1 hf
    obtain ⟨_, hk⟩ := entAt_some hk
    simp only [Nat.sub_zero] at hk
    obtain ⟨cs, hb⟩ := hb
    obtain ⟨x, hx, hin⟩ := in_at h hk
    rcases hin with ⟨cs', l, h1, h2, rfl⟩ | ⟨w, esz, rows, h1, rfl⟩
    · exact .ptr k off r o (by rw [in_μ_whole hk]; exact hm) ⟨l, hx⟩
    · rw [hb] at h1; cases h1
  | slr b i n v wm esz rows h0 hb hle hv =>
    intro hf
    simp only [ren] at hf
    obtain ⟨k, hk, rfl⟩ := Option.map_eq_some_iff.1 hf
    obtain ⟨_, hk⟩ := entAt_some hk
    simp only [Nat.sub_zero] at hk
    obtain ⟨x, hx, hin⟩ := in_at h hk
    rcases hin with ⟨cs', l, h1, h2, rfl⟩ | ⟨w, esz', rows', h1, rfl⟩
    · rw [hb] at h1; cases h1
    · rw [hb] at h1; injection h1 with h1; injection h1 with a1 a2 a3; subst a1 a2 a3
      refine .slr k i n v wm esz rows h0 hx hle fun e => ?_
      have hμ : (inSn s es blks).g.μ k = s.g.μ b := in_μ_whole hk
      rcases hv e with ⟨m', q1, q2, q3⟩ | ⟨r, cap, c, e1, fz, m', q⟩
      · exact .inl ⟨by rw [hμ]; exact m', q1, q2, q3⟩
      · exact .inr ⟨r, cap, c, e1, fz, by rw [hμ]; exact m', q⟩
  | ep b ext i off v wm esz rows h0 hb hle hv =>
    intro hf
    simp only [ren] at hf
    obtain ⟨k, hk, rfl⟩ := Option.map_eq_some_iff.1 hf
    obtain ⟨_, hk⟩ := entAt_some hk
    simp only [Nat.sub_zero] at hk
    obtain ⟨x, hx, hin⟩ := in_at h hk
    obtain ⟨esz', rows', row, h1, h2, h3, rfl⟩ := hin
    have h1' := h1
    rw [hb] at h1; injection h1 with h1; injection h1 with a1 a2 a3; subst a1 a2 a3
    have hlt := lt_of_get h3
    obtain ⟨r, m', hv⟩ := hv h2 (by omega)
    subst hv
    exact .ptr k off r (i * esz) (in_μ_elem hk h1' m') ⟨_, hx⟩
  | fn f first caps fs cs h1 h2 _ _ ih1 ih2 =>
    intro hf
    simp only [ren] at hf
    obtain ⟨l1, hl1, hf⟩ := Option.bind_eq_some_iff.1 hf
    obtain ⟨l2, hl2, rfl⟩ := Option.map_eq_some_iff.1 hf
    obtain ⟨k1, k2⟩ := renL_some hl1
    obtain ⟨k3, k4⟩ := renL_some hl2
    refine .fn f _ _ fs cs (by omega) (by omega) (fun i y v hy hv => ?_) (fun i y v hy hv => ?_)
    · have hlt := lt_of_get hy
      have hx : first[i]? = some (first[i]'(by omega)) := List.getElem?_eq_getElem _
      exact ih1 i _ v hx hv (k2 i _ y hx hy)
    · have hlt := lt_of_get hy
      have hx : caps[i]? = some (caps[i]'(by omega)) := List.getElem?_eq_getElem _
      exact ih2 i _ v hx hv (k4 i _ y hx hy)

def idE (es : List Ent) (k : Nat) : Nat := ((es[k]?).map Ent.id).getD 0

theorem idE_of {k : Nat} {e : Ent} (he : es[k]? = some e) : idE es k = e.id := by simp [idE, he]

include h in
theorem in_wr (k r o : Nat) (hw : Wr1 (inSn s es blks) k r o) : k < es.length ∧ Wr1 s (idE es k) r o := by
  unfold Wr1 at hw
  have hσ : (inSn s es blks).σ = blks := rfl
  rw [hσ] at hw
  cases hk : blks[k]? with
  | none => rw [hk] at hw; exact hw.elim
  | some x =>
    have hlt : k < es.length := by rw [h.len]; exact lt_of_get hk
    refine ⟨hlt, ?_⟩
    have hek : es[k]? = some es[k] := List.getElem?_eq_getElem hlt
    have hin := h.blk k _ x hek hk
    rw [idE_of hek]
    rw [hk] at hw
    unfold Wr1
    cases hcase : es[k] with
    | whole b =>
      rw [hcase] at hin hek
      rcases hin with ⟨cs', l, h1, h2, rfl⟩ | ⟨w, esz', rows', h1, rfl⟩
      · simp only [Ent.id]
        rw [h1]
        rw [in_μ_whole hek] at hw
        have := (renL_some h2).1
        simp only at hw ⊢
        rw [this]; exact hw
      · simp only [Ent.id]
        rw [h1]
        rw [in_μ_whole hek] at hw
        exact hw
    | elem b ext i =>
      rw [hcase] at hin hek
      obtain ⟨esz', rows', row, h1, h2, h3, rfl⟩ := hin
      simp only [Ent.id]
      rw [h1]
      obtain ⟨o0, m, _⟩ := hw
      have : ∃ p, s.g.μ b = some p ∧ p.1 = r := by
        simp only [inSn, hek, h1] at m
        cases hp : s.g.μ b with
        | none => simp [hp] at m
        | some p => simp [hp] at m; exact ⟨p, rfl, m.1⟩
      obtain ⟨p, hp, hr⟩ := this
      exact ⟨p.2, by rw [hp, ← hr]⟩

include h in
theorem in_inv : Inv (inSn s es blks) := by
  have hi := h.inv
  have hlen : (inSn s es blks).σ.length = es.length := h.len.symm
  refine inv_sel hi rfl ?_ ?_ (idE es) ?_ (fun k r o hw => (in_wr h k r o hw).2) (fun r o hc => ⟨(hi.const r o hc).1, fun k hw => (hi.const r o hc).2 _ (in_wr h k r o hw).2⟩)
  · intro k cs hk
    have hk : blks[k]? = some (.box cs) := hk
    have hlt : k < es.length := by rw [h.len]; exact lt_of_get hk
    have hek : es[k]? = some es[k] := List.getElem?_eq_getElem hlt
    have hin := h.blk k _ _ hek hk
    cases hcase : es[k] with
    | whole b =>
      rw [hcase] at hin hek
      rcases hin with ⟨cs', l, h1, h2, heq⟩ | ⟨w, esz', rows', h1, heq⟩
      · injection heq with heq; subst heq
        obtain ⟨k1, k2⟩ := renL_some h2
        obtain ⟨r, o, c, e, fz, hm, hh, hle, hx, hfr⟩ := hi.box _ _ h1
        refine ⟨r, o, c, e, fz, by rw [in_μ_whole hek]; exact hm, hh, by omega, fun i x hix => ?_, by rw [← k1]; exact hfr⟩
        have hi' := lt_of_get hix
        have hx0 : cs'[i]? = some (cs'[i]'(by omega)) := List.getElem?_eq_getElem _
        obtain ⟨v, hv, hr, h1⟩ := hx i _ hx0
        exact ⟨v, hv, in_rel h hr (k2 i _ x hx0 hix), h1⟩
      · cases heq
    | elem b ext i =>
      rw [hcase] at hin hek
      obtain ⟨esz', rows', row, h1, h2, h3, heq⟩ := hin
      injection heq with heq; subst heq
      have hlt' := lt_of_get h3
      rcases hi.arr _ _ _ _ h1 with ⟨hm, hr⟩ | ⟨r, c, e, fz, hm, hh, hrow, hl, hx, hfr⟩
      · subst hr; simp at h3
      · have hrl := hrow row (mem_of_get h3)
        have hbnd : i * esz' + esz' ≤ rows'.length * esz' := by
          have := Nat.mul_le_mul_right esz' (show i + 1 ≤ rows'.length from hlt')
          rwa [Nat.add_mul, Nat.one_mul] at this
        refine ⟨r, i * esz', c, e, fz, in_μ_elem hek h1 hm, hh, by simp; omega, fun j x hjx => ?_, fun o h1 h2 => hfr o (Nat.zero_le _) (by simp at h2; omega)⟩
        rw [List.getElem?_map] at hjx
        cases hrj : row[j]? with
        | none => simp [hrj] at hjx
        | some c0 =>
          simp [hrj] at hjx; subst hjx
          obtain ⟨⟨v, hv, hr⟩, _⟩ := hx i j row c0 h3 hrj
          exact ⟨v, hv, .p _ _ hr, hr.one⟩
  · intro k wm esz rows hk
    have hk : blks[k]? = some (.arr wm esz rows) := hk
    have hlt : k < es.length := by rw [h.len]; exact lt_of_get hk
    have hek : es[k]? = some es[k] := List.getElem?_eq_getElem hlt
    have hin := h.blk k _ _ hek hk
    cases hcase : es[k] with
    | whole b =>
      rw [hcase] at hin hek
      rcases hin with ⟨cs', l, h1, h2, heq⟩ | ⟨w, esz', rows', h1, heq⟩
      · cases heq
      · injection heq with a1 a2 a3; subst a1 a2 a3
        rcases hi.arr _ _ _ _ h1 with ⟨hm, hr⟩ | ⟨r, c, e, fz, hm, hq⟩
        · exact .inl ⟨by rw [in_μ_whole hek]; exact hm, hr⟩
        · exact .inr ⟨r, c, e, fz, by rw [in_μ_whole hek]; exact hm, hq⟩
    | elem b ext i =>
      rw [hcase] at hin hek
      obtain ⟨esz', rows', row, h1, h2, h3, heq⟩ := hin
      cases heq
  · intro k1 k2 h1 h2 he
    rw [hlen] at h1 h2
    have e1 : es[k1]? = some es[k1] := List.getElem?_eq_getElem h1
    have e2 : es[k2]? = some es[k2] := List.getElem?_eq_getElem h2
    rw [idE_of e1, idE_of e2] at he
    refine nodup_inj h.nodup (x := es[k1].id) ?_ ?_
    · rw [List.getElem?_map, e1]; rfl
    · rw [List.getElem?_map, e2, he]; rfl

end
end Go.Am
