/-
  The abstract machine: back from a call.
-/
import Derived.Test.YteiakclfpfmigaaAmCall
set_option linter.unusedSimpArgs false
set_option linter.unusedVariables false
namespace Go.Am

/-- A block's content behind the call, in the caller's names. -/
def OutOk (s1 : Sn) (es : List Ent) (new : Nat) (σ2 : List Blk) (k : Nat) (y : Blk) : Prop :=
  match es[k]? with
  | some (.whole b) => (∃ cs l, y = .box cs ∧ bk.bkL es new cs = some l ∧ σ2[b]? = some (.box l)) ∨ (∃ w esz rows, y = .arr w esz rows ∧ σ2[b]? = some (.arr w esz rows))
  | some (.elem b _ i) => ∃ w esz rows row', s1.σ[b]? = some (.arr w esz rows) ∧ y = .box (row'.map .p) ∧ σ2[b]? = some (.arr w esz (rows.set i row'))
  | none => (∃ cs l, y = .box cs ∧ bk.bkL es new cs = some l ∧ σ2[new + (k - es.length)]? = some (.box l)) ∨ (∃ w esz rows, y = .arr w esz rows ∧ σ2[new + (k - es.length)]? = some (.arr w esz rows))

structure CallOut (s1 : Sn) (es : List Ent) (blks : List Blk) (new kf : Nat) (c' : Sn) (σ2 : List Blk) : Prop where
  cin : CallIn s1 es blks
  inv : Inv c'
  trans : Trans (inSn s1 es blks) c'
  len : c'.σ.length = es.length + kf
  slen : σ2.length = s1.σ.length
  dead : ∀ j, j < kf → s1.σ[new + j]? = some .dead
  out : ∀ k y, c'.σ[k]? = some y → OutOk s1 es new σ2 k y
  same : ∀ b, b ∉ es.map Ent.id → (b < new ∨ new + kf ≤ b) → σ2[b]? = s1.σ[b]?

/-- Where a caller's block is in the callee. -/
def kOf (es : List Ent) (new kf b : Nat) : Option Nat :=
  match entAt (.whole b) es 0 with
  | some k => some k
  | none => if new ≤ b ∧ b < new + kf ∧ b ∉ es.map Ent.id then some (es.length + (b - new)) else none

def outSn (s1 : Sn) (es : List Ent) (new kf : Nat) (c' : Sn) (σ2 : List Blk) : Sn :=
  ⟨σ2, ⟨fun b => match kOf es new kf b with
    | some k => c'.g.μ k
    | none => s1.g.μ b, c'.g.C⟩, c'.w⟩

theorem entAt_none {e : Ent} : ∀ {es : List Ent} {k : Nat}, entAt e es k = none → e ∉ es
  | [], k, _ => by simp
  | x :: r, k, h => by
    simp only [entAt] at h
    split at h
    · cases h
    · rename_i hx
      simp only [List.mem_cons, not_or]
      exact ⟨fun e => hx e.symm, entAt_none h⟩

section
variable {s1 c' : Sn} {es : List Ent} {blks σ2 : List Blk} {new kf : Nat} (h : CallOut s1 es blks new kf c' σ2)

theorem mem_id {k : Nat} {e : Ent} (he : es[k]? = some e) : e.id ∈ es.map Ent.id := List.mem_map.2 ⟨e, mem_of_get he, rfl⟩

include h in
theorem id_inj {k1 k2 : Nat} {e1 e2 : Ent} (h1 : es[k1]? = some e1) (h2 : es[k2]? = some e2) (he : e1.id = e2.id) : k1 = k2 :=
  nodup_inj h.cin.nodup (x := e1.id) (by rw [List.getElem?_map, h1]; rfl) (by rw [List.getElem?_map, h2, he]; rfl)

include h in
/-- The entries' blocks are in use. -/
theorem id_live {k : Nat} {e : Ent} (he : es[k]? = some e) : ∃ y, s1.σ[e.id]? = some y ∧ y ≠ .dead := by
  obtain ⟨x, _, hin⟩ := in_at h.cin he
  cases e with
  | whole b =>
    rcases hin with ⟨cs', l, h1, h2, rfl⟩ | ⟨w, esz', rows', h1, rfl⟩
    · exact ⟨_, h1, by simp⟩
    · exact ⟨_, h1, by simp⟩
  | elem b ext i =>
    obtain ⟨esz', rows', row, h1, h2, h3, rfl⟩ := hin
    exact ⟨_, h1, by simp⟩

include h in
theorem fresh_id {j : Nat} (hj : j < kf) : new + j ∉ es.map Ent.id := by
  intro hm
  obtain ⟨e, he, hid⟩ := List.mem_map.1 hm
  obtain ⟨k, hk⟩ := List.getElem?_of_mem he
  obtain ⟨y, hy, hd⟩ := id_live h hk
  rw [hid, h.dead j hj] at hy
  injection hy with hy; exact hd hy.symm

include h in
theorem kOf_whole {k b : Nat} (he : es[k]? = some (.whole b)) : kOf es new kf b = some k := by
  unfold kOf
  cases hc : entAt (.whole b) es 0 with
  | none => exact absurd (mem_of_get he) (entAt_none hc)
  | some k' =>
    obtain ⟨_, hk'⟩ := entAt_some hc
    simp only [Nat.sub_zero] at hk'
    rw [id_inj h hk' he rfl]

include h in
theorem kOf_elem {k b e i : Nat} (he : es[k]? = some (.elem b e i)) : kOf es new kf b = none := by
  unfold kOf
  cases hc : entAt (.whole b) es 0 with
  | some k' =>
    obtain ⟨_, hk'⟩ := entAt_some hc
    simp only [Nat.sub_zero] at hk'
    have := id_inj h hk' he rfl
    subst this
    rw [he] at hk'; cases hk'
  | none =>
    have : b ∈ es.map Ent.id := mem_id he
    simp [this]

include h in
theorem kOf_fresh {j : Nat} (hj : j < kf) : kOf es new kf (new + j) = some (es.length + j) := by
  unfold kOf
  have hn := fresh_id h hj
  cases hc : entAt (.whole (new + j)) es 0 with
  | some k' =>
    obtain ⟨_, hk'⟩ := entAt_some hc
    simp only [Nat.sub_zero] at hk'
    exact absurd (mem_id hk') hn
  | none =>
    simp only
    rw [if_pos ⟨by omega, by omega, hn⟩]
    congr 1; omega

theorem kOf_other {b : Nat} (h1 : b ∉ es.map Ent.id) (h2 : b < new ∨ new + kf ≤ b) : kOf es new kf b = none := by
  unfold kOf
  cases hc : entAt (.whole b) es 0 with
  | some k' =>
    obtain ⟨_, hk'⟩ := entAt_some hc
    simp only [Nat.sub_zero] at hk'
    exact absurd (mem_id hk') h1
  | none =>
    simp only
    rw [if_neg (by omega)]

/-- The caller's name of a callee's block. -/
def tgt (es : List Ent) (new k : Nat) : Nat := match es[k]? with
  | some e => e.id
  | none => new + (k - es.length)

include h in
theorem out_μ {k : Nat} (hk : k < es.length + kf) (hne : ∀ b e i, es[k]? ≠ some (.elem b e i)) : (outSn s1 es new kf c' σ2).g.μ (tgt es new k) = c'.g.μ k := by
  simp only [outSn, tgt]
  cases he : es[k]? with
  | some e =>
    cases e with
    | whole b => simp only [Ent.id]; rw [kOf_whole h he]
    | elem b e i => exact absurd he (hne b e i)
  | none =>
    have hge : es.length ≤ k := by
      rcases Nat.lt_or_ge k es.length with hlt | hge
      · rw [List.getElem?_eq_getElem hlt] at he; cases he
      · exact hge
    have := kOf_fresh h (j := k - es.length) (by omega)
    simp only
    rw [this]
    simp only
    congr 1; omega

include h in
theorem elem_facts {k b ext i : Nat} (he : es[k]? = some (.elem b ext i)) : ∃ esz rows row r row', s1.σ[b]? = some (.arr true esz rows) ∧ ext = rows.length ∧ rows[i]? = some row ∧ s1.g.μ b = some (r, 0) ∧
    c'.σ[k]? = some (.box (row'.map .p)) ∧ row'.length = row.length ∧ row.length = esz ∧ c'.g.μ k = some (r, i * esz) ∧ σ2[b]? = some (.arr true esz (rows.set i row')) ∧ (outSn s1 es new kf c' σ2).g.μ b = some (r, 0) := by
  obtain ⟨x, hx, hin⟩ := in_at h.cin he
  obtain ⟨esz, rows, row, h1, h2, h3, rfl⟩ := hin
  have hlt := lt_of_get h3
  rcases h.cin.inv.arr _ _ _ _ h1 with ⟨hm, hr⟩ | ⟨r, c, e, fz, hm, hh, hrow, hl, hxx, hfr⟩
  · subst hr; simp at h3
  · obtain ⟨⟨cs', q1, q2⟩, q3⟩ := h.trans.box k _ hx
    have ho := h.out k _ q1
    unfold OutOk at ho
    rw [he] at ho
    obtain ⟨w, esz', rows', row', o1, o2, o3⟩ := ho
    rw [h1] at o1; injection o1 with o1; injection o1 with a1 a2 a3; subst a1 a2 a3
    injection o2 with o2; subst o2
    refine ⟨esz, rows, row, r, row', h1, h2, h3, hm, q1, by simpa using q2, hrow row (mem_of_get h3), ?_, o3, ?_⟩
    · rw [q3, in_μ_elem he h1 hm]
    · simp only [outSn]; rw [kOf_elem h he]; exact hm

include h in
theorem out_rel {x y : AV} {v : Value} (hr : RelA c' x v) : bk es new x = some y → RelA (outSn s1 es new kf c' σ2) y v := by
  have at_k : ∀ {k : Nat} {z : Blk}, c'.σ[k]? = some z → k < es.length + kf := fun hz => by rw [← h.len]; exact lt_of_get hz
  induction hr generalizing y with
  | p c v hp => intro hf; simp [bk] at hf; subst hf; exact .p _ _ hp
  | data cs vs h1 h2 => intro hf; simp [bk] at hf; subst hf; exact .data _ _ h1 h2
  | cp cs off r o vals p1 p2 => intro hf; simp [bk] at hf; subst hf; exact .cp cs off r o vals p1 p2
  | unk x => intro hf; simp [bk] at hf; subst hf; exact .unk x
  | agg cs vs h1 h0 h2 ih =>
    intro hf
    simp only [bk] at hf
    split at hf
    · rename_i l hl
      injection hf with hf; subst hf
      obtain ⟨k1, k2⟩ := bkL_some hl
      refine .agg _ _ (by omega) h0 fun i y v hy hv => ?_
      have hlt := lt_of_get hy
      have hx : cs[i]? = some (cs[i]'(by omega)) := List.getElem?_eq_getElem _
      exact ih i _ v hx hv (k2 i _ y hx hy)
    · cases hf
  | tup cs vs h1 h2 ih =>
    intro hf
    simp only [bk] at hf
    split at hf
    · rename_i l hl
      injection hf with hf; subst hf
      obtain ⟨k1, k2⟩ := bkL_some hl
      refine .tup _ _ (by omega) fun i y v hy hv => ?_
      have hlt := lt_of_get hy
      have hx : cs[i]? = some (cs[i]'(by omega)) := List.getElem?_eq_getElem _
      exact ih i _ v hx hv (k2 i _ y hx hy)
    · cases hf
  | ptr k off r o hm hb =>
    intro hf
    obtain ⟨cs, hb⟩ := hb
    have hk := at_k hb
    have ho := h.out k _ hb
    unfold OutOk at ho
    simp only [bk] at hf
    split at hf
    · rename_i hlt
      have hek : es[k]? = some es[k] := List.getElem?_eq_getElem hlt
      split at hf
      · rename_i b he
        injection hf with hf; subst hf
        have hμ := out_μ h hk (by rw [he]; simp)
        simp only [tgt, he, Ent.id] at hμ
        rw [he] at ho
        rcases ho with ⟨cs', l, e1, e2, e3⟩ | ⟨w, esz, rows, e1, e2⟩
        · exact .ptr b off r o (by rw [hμ]; exact hm) ⟨l, e3⟩
        · cases e1
      · rename_i b e i he
        injection hf with hf; subst hf
        obtain ⟨esz, rows, row, r', row', f1, f2, f3, f4, f5, f6, f7, f8, f9, f10⟩ := elem_facts h he
        rw [hm] at f8; injection f8 with f8; injection f8 with g1 g2; subst g1 g2
        exact .ep b e i off _ true esz (rows.set i row') ⟨_, _, rfl⟩ f9 (by simp [f2]) fun _ _ => ⟨r, f10, rfl⟩
      · cases hf
    · rename_i hge
      injection hf with hf; subst hf
      have he : es[k]? = none := List.getElem?_eq_none (by omega)
      have hμ := out_μ h hk (by rw [he]; simp)
      simp only [tgt, he] at hμ
      rw [he] at ho
      rcases ho with ⟨cs', l, e1, e2, e3⟩ | ⟨w, esz, rows, e1, e2⟩
      · exact .ptr _ off r o (by rw [hμ]; exact hm) ⟨l, e3⟩
      · cases e1
  | slr k i n v wm esz rows h0 hb hle hv =>
    intro hf
    have hk := at_k hb
    have ho := h.out k _ hb
    unfold OutOk at ho
    have go : ∀ b, (outSn s1 es new kf c' σ2).g.μ b = c'.g.μ k → σ2[b]? = some (.arr wm esz rows) → RelA (outSn s1 es new kf c' σ2) (.slr b i n) v := by
      intro b hμ hσ
      refine .slr b i n v wm esz rows h0 hσ hle fun e => ?_
      rcases hv e with ⟨m', q1, q2, q3⟩ | ⟨r, cap, c, e1, fz, m', q⟩
      · exact .inl ⟨by rw [hμ]; exact m', q1, q2, q3⟩
      · exact .inr ⟨r, cap, c, e1, fz, by rw [hμ]; exact m', q⟩
    simp only [bk] at hf
    split at hf
    · rename_i hlt
      split at hf
      · rename_i b he
        injection hf with hf; subst hf
        have hμ := out_μ h hk (by rw [he]; simp)
        simp only [tgt, he, Ent.id] at hμ
        rw [he] at ho
        rcases ho with ⟨cs', l, e1, e2, e3⟩ | ⟨w, esz', rows', e1, e2⟩
        · cases e1
        · injection e1 with a1 a2 a3; subst a1 a2 a3
          exact go b hμ e2
      · cases hf
    · rename_i hge
      injection hf with hf; subst hf
      have he : es[k]? = none := List.getElem?_eq_none (by omega)
      have hμ := out_μ h hk (by rw [he]; simp)
      simp only [tgt, he] at hμ
      rw [he] at ho
      rcases ho with ⟨cs', l, e1, e2, e3⟩ | ⟨w, esz', rows', e1, e2⟩
      · cases e1
      · injection e1 with a1 a2 a3; subst a1 a2 a3
        exact go _ hμ e2
  | ep k ext i off v wm esz rows h0 hb hle hv =>
    intro hf
    have hk := at_k hb
    have ho := h.out k _ hb
    unfold OutOk at ho
    have go : ∀ b, (outSn s1 es new kf c' σ2).g.μ b = c'.g.μ k → σ2[b]? = some (.arr wm esz rows) → RelA (outSn s1 es new kf c' σ2) (.ep b ext i off) v := by
      intro b hμ hσ
      refine .ep b ext i off v wm esz rows h0 hσ hle fun e1 e2 => ?_
      obtain ⟨r, m', q⟩ := hv e1 e2
      exact ⟨r, by rw [hμ]; exact m', q⟩
    simp only [bk] at hf
    split at hf
    · rename_i hlt
      split at hf
      · rename_i b he
        injection hf with hf; subst hf
        have hμ := out_μ h hk (by rw [he]; simp)
        simp only [tgt, he, Ent.id] at hμ
        rw [he] at ho
        rcases ho with ⟨cs', l, e1, e2, e3⟩ | ⟨w, esz', rows', e1, e2⟩
        · cases e1
        · injection e1 with a1 a2 a3; subst a1 a2 a3
          exact go b hμ e2
      · cases hf
    · rename_i hge
      injection hf with hf; subst hf
      have he : es[k]? = none := List.getElem?_eq_none (by omega)
      have hμ := out_μ h hk (by rw [he]; simp)
      simp only [tgt, he] at hμ
      rw [he] at ho
      rcases ho with ⟨cs', l, e1, e2, e3⟩ | ⟨w, esz', rows', e1, e2⟩
      · cases e1
      · injection e1 with a1 a2 a3; subst a1 a2 a3
        exact go _ hμ e2
  | fn f first caps fs cs h1 h2 _ _ ih1 ih2 =>
    intro hf
    simp only [bk] at hf
    split at hf
    · rename_i a c ha hc
      injection hf with hf; subst hf
      obtain ⟨k1, k2⟩ := bkL_some ha
      obtain ⟨k3, k4⟩ := bkL_some hc
      refine .fn f a c fs cs (by omega) (by omega) (fun i y v hy hv => ?_) (fun i y v hy hv => ?_)
      · have hlt := lt_of_get hy
        have hx : first[i]? = some (first[i]'(by omega)) := List.getElem?_eq_getElem _
        exact ih1 i _ v hx hv (k2 i _ y hx hy)
      · have hlt := lt_of_get hy
        have hx : caps[i]? = some (caps[i]'(by omega)) := List.getElem?_eq_getElem _
        exact ih2 i _ v hx hv (k4 i _ y hx hy)
    · cases hf

/-- A caller's block behind the call is the callee's, an element's array, or untouched. -/
inductive Kind (es : List Ent) (new kf b : Nat) : Prop where
  | out (k : Nat) : k < es.length + kf → tgt es new k = b → (∀ b e i, es[k]? ≠ some (.elem b e i)) → Kind es new kf b
  | elem (k e i : Nat) : es[k]? = some (.elem b e i) → Kind es new kf b
  | other : b ∉ es.map Ent.id → (b < new ∨ new + kf ≤ b) → Kind es new kf b

theorem kind_of (b : Nat) : Kind es new kf b := by
  by_cases hm : b ∈ es.map Ent.id
  · obtain ⟨e, he, hid⟩ := List.mem_map.1 hm
    obtain ⟨k, hk⟩ := List.getElem?_of_mem he
    have hlt := lt_of_get hk
    cases e with
    | whole b' => simp only [Ent.id] at hid; subst hid; exact .out k (by omega) (by simp [tgt, hk, Ent.id]) (by rw [hk]; simp)
    | elem b' e' i' => simp only [Ent.id] at hid; subst hid; exact .elem k e' i' hk
  · by_cases hr : new ≤ b ∧ b < new + kf
    · have he : es[es.length + (b - new)]? = none := List.getElem?_eq_none (by omega)
      refine .out (es.length + (b - new)) (by omega) ?_ (by rw [he]; simp)
      simp only [tgt, he]; omega
    · exact .other hm (by omega)

include h in
theorem out_wr {k : Nat} (hk : k < es.length + kf) (hne : ∀ b e i, es[k]? ≠ some (.elem b e i)) (r o : Nat) :
    Wr1 (outSn s1 es new kf c' σ2) (tgt es new k) r o ↔ Wr1 c' k r o := by
  have hμ := out_μ h hk hne
  have hlt : k < c'.σ.length := by rw [h.len]; exact hk
  have hg : c'.σ[k]? = some c'.σ[k] := List.getElem?_eq_getElem hlt
  have ho := h.out k _ hg
  unfold OutOk at ho
  unfold Wr1
  rw [hg, hμ]
  have hσ : (outSn s1 es new kf c' σ2).σ = σ2 := rfl
  rw [hσ]
  cases he : es[k]? with
  | some e =>
    cases e with
    | whole b =>
      simp only [tgt, he, Ent.id]
      rw [he] at ho
      rcases ho with ⟨cs', l, e1, e2, e3⟩ | ⟨w, esz', rows', e1, e2⟩
      · rw [e1, e3]; simp only; rw [(bkL_some e2).1]
      · rw [e1, e2]
    | elem b e i => exact absurd he (hne b e i)
  | none =>
    simp only [tgt, he]
    rw [he] at ho
    rcases ho with ⟨cs', l, e1, e2, e3⟩ | ⟨w, esz', rows', e1, e2⟩
    · rw [e1, e3]; simp only; rw [(bkL_some e2).1]
    · rw [e1, e2]

include h in
theorem elem_wr {k b e i : Nat} (he : es[k]? = some (.elem b e i)) (r o : Nat) : Wr1 (outSn s1 es new kf c' σ2) b r o ↔ Wr1 s1 b r o := by
  obtain ⟨esz, rows, row, r', row', f1, f2, f3, f4, f5, f6, f7, f8, f9, f10⟩ := elem_facts h he
  unfold Wr1
  have hσ : (outSn s1 es new kf c' σ2).σ = σ2 := rfl
  rw [hσ, f9, f1, f10, f4]

include h in
theorem other_wr {b : Nat} (h1 : b ∉ es.map Ent.id) (h2 : b < new ∨ new + kf ≤ b) (r o : Nat) : Wr1 (outSn s1 es new kf c' σ2) b r o ↔ Wr1 s1 b r o := by
  unfold Wr1
  have hσ : (outSn s1 es new kf c' σ2).σ = σ2 := rfl
  have hμ : (outSn s1 es new kf c' σ2).g.μ b = s1.g.μ b := by simp only [outSn]; rw [kOf_other h1 h2]
  rw [hσ, h.same b h1 h2, hμ]

include h in
/-- What the callee may write was the caller's to write. -/
theorem callee_wr {r o : Nat} (hw : Wr c' r o) : (∃ k e, es[k]? = some e ∧ Wr1 (inSn s1 es blks) k r o ∧ Wr1 s1 e.id r o) ∨ s1.w.heap.size ≤ r := by
  rcases h.trans.wnew r o hw with ⟨k, hk⟩ | hn
  · obtain ⟨hlt, hw'⟩ := in_wr h.cin k r o hk
    have he : es[k]? = some es[k] := List.getElem?_eq_getElem hlt
    rw [idE_of he] at hw'
    exact .inl ⟨k, _, he, hk, hw'⟩
  · exact .inr hn

include h in
theorem out_trans : Trans s1 (outSn s1 es new kf c' σ2) := by
  refine ⟨?_, fun r o hc => h.trans.cmono r o hc, fun r o hc => ?_, fun r o ⟨b, hw⟩ => ?_, Nat.le_of_eq h.slen.symm, fun b cs hb => ?_, fun b wm esz rows hb => ?_⟩
  · refine h.trans.keep.mono fun r o ⟨k, hk⟩ => ?_
    exact ⟨_, (in_wr h.cin k r o hk).2⟩
  · rcases h.trans.cnew r o hc with hc | ⟨k, hk⟩ | hn
    · exact .inl hc
    · exact .inr (.inl ⟨_, (in_wr h.cin k r o hk).2⟩)
    · exact .inr (.inr hn)
  · cases kind_of (es := es) (new := new) (kf := kf) b with
    | out k hk ht hne =>
      subst ht
      rcases callee_wr h ⟨k, (out_wr h hk hne r o).1 hw⟩ with ⟨k', e, _, _, hw'⟩ | hn
      · exact .inl ⟨_, hw'⟩
      · exact .inr hn
    | elem k e i he => exact .inl ⟨b, (elem_wr h he r o).1 hw⟩
    | other h1 h2 => exact .inl ⟨b, (other_wr h h1 h2 r o).1 hw⟩
  · cases kind_of (es := es) (new := new) (kf := kf) b with
    | out k hk ht hne =>
      cases he : es[k]? with
      | none =>
        exfalso
        simp only [tgt, he] at ht
        have hge : es.length ≤ k := by
          rcases Nat.lt_or_ge k es.length with hlt | hge
          · rw [List.getElem?_eq_getElem hlt] at he; cases he
          · exact hge
        have := h.dead (k - es.length) (by omega)
        rw [ht, hb] at this; cases this
      | some e =>
        cases e with
        | elem b e i => exact absurd he (hne b e i)
        | whole b' =>
          simp only [tgt, he, Ent.id] at ht; subst ht
          obtain ⟨x, hx, hin⟩ := in_at h.cin he
          rcases hin with ⟨cs', l, h1, h2, rfl⟩ | ⟨w, esz', rows', h1, rfl⟩
          · rw [hb] at h1; injection h1 with h1; injection h1 with h1; subst h1
            obtain ⟨⟨cs2, q1, q2⟩, q3⟩ := h.trans.box k _ hx
            have ho := h.out k _ q1
            unfold OutOk at ho
            rw [he] at ho
            have hμ := out_μ h hk hne
            simp only [tgt, he, Ent.id] at hμ
            rcases ho with ⟨cs3, l', e1, e2, e3⟩ | ⟨w, esz, rows, e1, e2⟩
            · injection e1 with e1; subst e1
              refine ⟨⟨l', e3, ?_⟩, ?_⟩
              · rw [← (bkL_some e2).1, q2, (renL_some h2).1]
              · rw [hμ, q3, in_μ_whole he]
            · cases e1
          · rw [hb] at h1; cases h1
    | elem k e i he =>
      obtain ⟨esz, rows, row, r', row', f1, _⟩ := elem_facts h he
      rw [hb] at f1; cases f1
    | other h1 h2 =>
      refine ⟨⟨cs, by rw [← hb]; exact h.same b h1 h2, rfl⟩, ?_⟩
      simp only [outSn]; rw [kOf_other h1 h2]
  · cases kind_of (es := es) (new := new) (kf := kf) b with
    | out k hk ht hne =>
      cases he : es[k]? with
      | none =>
        exfalso
        simp only [tgt, he] at ht
        have hge : es.length ≤ k := by
          rcases Nat.lt_or_ge k es.length with hlt | hge
          · rw [List.getElem?_eq_getElem hlt] at he; cases he
          · exact hge
        have := h.dead (k - es.length) (by omega)
        rw [ht, hb] at this; cases this
      | some e =>
        cases e with
        | elem b e i => exact absurd he (hne b e i)
        | whole b' =>
          simp only [tgt, he, Ent.id] at ht; subst ht
          obtain ⟨x, hx, hin⟩ := in_at h.cin he
          rcases hin with ⟨cs', l, h1, h2, rfl⟩ | ⟨w, esz', rows', h1, rfl⟩
          · rw [hb] at h1; cases h1
          · rw [hb] at h1; injection h1 with h1; injection h1 with a1 a2 a3; subst a1 a2 a3
            obtain ⟨wm', rows2, q1, q2, q3, q4⟩ := h.trans.arr k _ _ _ hx
            have ho := h.out k _ q1
            unfold OutOk at ho
            rw [he] at ho
            have hμ := out_μ h hk hne
            simp only [tgt, he, Ent.id] at hμ
            rcases ho with ⟨cs3, l', e1, e2, e3⟩ | ⟨w, esz2, rows3, e1, e2⟩
            · cases e1
            · injection e1 with a1 a2 a3; subst a1 a2 a3
              exact ⟨wm', rows2, e2, q2, q3, fun e => by rw [hμ, q4 e, in_μ_whole he]⟩
    | elem k e i he =>
      obtain ⟨esz', rows', row, r', row', f1, f2, f3, f4, f5, f6, f7, f8, f9, f10⟩ := elem_facts h he
      rw [hb] at f1; injection f1 with f1; injection f1 with a1 a2 a3; subst a1 a2 a3
      exact ⟨true, _, f9, fun _ => rfl, by simp, fun _ => by rw [f10, f4]⟩
    | other h1 h2 =>
      refine ⟨wm, rows, by rw [← hb]; exact h.same b h1 h2, id, Nat.le_refl _, fun _ => ?_⟩
      simp only [outSn]; rw [kOf_other h1 h2]

include h in
theorem out_inv : Inv (outSn s1 es new kf c' σ2) := by
  have hi := h.cin.inv
  have t := out_trans h
  have notOther : ∀ {b}, ¬ (b ∈ es.map Ent.id ∨ (new ≤ b ∧ b < new + kf)) → b ∉ es.map Ent.id ∧ (b < new ∨ new + kf ≤ b) := fun hn => ⟨fun hm => hn (.inl hm), by omega⟩
  -- the element's own cells are still the callee's
  have elem_back : ∀ {k b e i r o}, es[k]? = some (.elem b e i) → (Wr1 (inSn s1 es blks) k r o ↔ Wr1 c' k r o) := by
    intro k b e i r o he
    obtain ⟨x, hx, hin⟩ := in_at h.cin he
    obtain ⟨esz, rows, row, h1, h2, h3, rfl⟩ := hin
    obtain ⟨⟨cs', q1, q2⟩, q3⟩ := h.trans.box k _ hx
    have hx' : (inSn s1 es blks).σ[k]? = some (.box (row.map .p)) := hx
    unfold Wr1
    rw [hx', q1, q3]
    simp only [q2]
  -- what is written through a callee's block is no other block's of the caller
  have meet : ∀ {k b r o}, k < es.length + kf → Wr1 c' k r o → Wr1 s1 b r o → (∃ k', es[k']? = some (.whole b) ∨ ∃ e i, es[k']? = some (.elem b e i) ∧ k' = k) := by
    intro k b r o hk hw hb
    rcases callee_wr h ⟨k, hw⟩ with ⟨k', e, he, hwin, hw'⟩ | hn
    · have hid := hi.apart _ _ _ _ hw' hb
      cases e with
      | whole b' => simp only [Ent.id] at hid; subst hid; exact ⟨k', .inl he⟩
      | elem b' e' i' =>
        simp only [Ent.id] at hid; subst hid
        have := h.inv.apart _ _ _ _ ((elem_back he).1 hwin) hw
        exact ⟨k', .inr ⟨e', i', he, this⟩⟩
    · have := wr_lt hi b r o hb; omega
  refine inv_of hi t (fun b => b ∈ es.map Ent.id ∨ (new ≤ b ∧ b < new + kf)) ?_ ?_ ?_ ?_ ?_ ?_ ?_ ?_
  · intro b hn
    obtain ⟨h1, h2⟩ := notOther hn
    exact ⟨h.same b h1 h2, by simp only [outSn]; rw [kOf_other h1 h2]⟩
  · intro b r o v hn hw hv
    refine h.trans.keep.cell ?_ hv
    rintro ⟨k, hk⟩
    obtain ⟨hlt, hw'⟩ := in_wr h.cin k r o hk
    have he : es[k]? = some es[k] := List.getElem?_eq_getElem hlt
    rw [idE_of he] at hw'
    have := hi.apart _ _ _ _ hw' hw
    exact hn (.inl (this ▸ mem_id he))
  · intro b cs hd hb
    have hb : σ2[b]? = some (.box cs) := hb
    cases kind_of (es := es) (new := new) (kf := kf) b with
    | other h1 h2 => rcases hd with hd | hd; exact absurd hd h1; omega
    | elem k e i he =>
      obtain ⟨esz', rows', row, r', row', f1, f2, f3, f4, f5, f6, f7, f8, f9, f10⟩ := elem_facts h he
      rw [hb] at f9; cases f9
    | out k hk ht hne =>
      subst ht
      have hlt : k < c'.σ.length := by rw [h.len]; exact hk
      have hg : c'.σ[k]? = some c'.σ[k] := List.getElem?_eq_getElem hlt
      have ho := h.out k _ hg
      unfold OutOk at ho
      have key : ∃ cs0, c'.σ[k]? = some (.box cs0) ∧ bk.bkL es new cs0 = some cs := by
        cases he : es[k]? with
        | some e =>
          cases e with
          | elem b e i => exact absurd he (hne b e i)
          | whole b' =>
            simp only [tgt, he, Ent.id] at hb
            rw [he] at ho
            rcases ho with ⟨cs3, l', e1, e2, e3⟩ | ⟨w, esz2, rows3, e1, e2⟩
            · rw [hb] at e3; injection e3 with e3; injection e3 with e3; subst e3; exact ⟨cs3, by rw [hg, e1], e2⟩
            · rw [hb] at e2; cases e2
        | none =>
          simp only [tgt, he] at hb
          rw [he] at ho
          rcases ho with ⟨cs3, l', e1, e2, e3⟩ | ⟨w, esz2, rows3, e1, e2⟩
          · rw [hb] at e3; injection e3 with e3; injection e3 with e3; subst e3; exact ⟨cs3, by rw [hg, e1], e2⟩
          · rw [hb] at e2; cases e2
      obtain ⟨cs0, h0, hl⟩ := key
      obtain ⟨k1, k2⟩ := bkL_some hl
      obtain ⟨r, o, c, e, fz, hm, hh, hle, hx, hfr⟩ := h.inv.box _ _ h0
      refine ⟨r, o, c, e, fz, by rw [out_μ h hk hne]; exact hm, hh, by omega, fun i x hix => ?_, by rw [← k1]; exact hfr⟩
      have hi' := lt_of_get hix
      have hx0 : cs0[i]? = some (cs0[i]'(by omega)) := List.getElem?_eq_getElem _
      obtain ⟨v, hv, hr, h1⟩ := hx i _ hx0
      exact ⟨v, hv, out_rel h hr (k2 i _ x hx0 hix), h1⟩
  · intro b wm esz rows hd hb
    have hb : σ2[b]? = some (.arr wm esz rows) := hb
    cases kind_of (es := es) (new := new) (kf := kf) b with
    | other h1 h2 => rcases hd with hd | hd; exact absurd hd h1; omega
    | elem k e i he =>
      obtain ⟨esz', rows', row, r', row', f1, f2, f3, f4, f5, f6, f7, f8, f9, f10⟩ := elem_facts h he
      rw [hb] at f9; injection f9 with f9; injection f9 with a1 a2 a3; subst a1 a2 a3
      have hlt := lt_of_get f3
      rcases hi.arr _ _ _ _ f1 with ⟨hm, hr⟩ | ⟨r, c, e1, fz, hm, hh, hrow, hl, hx, hfr⟩
      · subst hr; simp at f3
      · rw [f4] at hm; injection hm with hm; injection hm with hm _; subst hm
        obtain ⟨c2, q1, q2, q3⟩ := t.keep.2.1 _ _ _ _ hh
        obtain ⟨rr, oo, c3, e3, fz3, m3, hh3, hle3, hx3, hfr3⟩ := h.inv.box _ _ f5
        rw [f8] at m3; injection m3 with m3; injection m3 with w1 w2; subst w1 w2
        have q1' : c'.w.heap[r']? = some (.cells c2 e1 fz) := q1
        rw [q1'] at hh3; injection hh3 with hh3; injection hh3 with w1 w2 w3; subst w1 w2 w3
        refine .inr ⟨r', c2, e1, fz, f10, q1, fun rw0 hrw => ?_, by simp; omega, fun k0 j row0 x0 hk0 hj0 => ⟨?_, fun h => by cases h⟩, by rw [q2]; exact hfr⟩
        · rcases List.mem_or_eq_of_mem_set hrw with hm | hm
          · exact hrow _ hm
          · subst hm; omega
        · have hjlt := lt_of_get hj0
          by_cases hki : k0 = i
          · subst hki
            rw [List.getElem?_set_self hlt] at hk0
            injection hk0 with hk0; subst hk0
            obtain ⟨v, hv, hr, _⟩ := hx3 j (.p x0) (by simp [hj0])
            refine ⟨v, hv, ?_⟩
            cases hr with | p _ _ hr => exact hr
          · rw [List.getElem?_set_ne (Ne.symm hki)] at hk0
            obtain ⟨⟨v', hv', hr'⟩, _⟩ := hx k0 j row0 x0 hk0 hj0
            refine ⟨v', ?_, hr'.mono hi t⟩
            have hcell : cellAt s1.w r' (k0 * esz + j) = some v' := by rw [cellAt_of hh]; exact hv'
            have hj1 : j < esz := by rw [hrow _ (mem_of_get hk0)] at hjlt; exact hjlt
            have hnw : ¬ Wr (inSn s1 es blks) r' (k0 * esz + j) := by
              rintro ⟨k', hk'⟩
              obtain ⟨hlt', hw'⟩ := in_wr h.cin k' _ _ hk'
              have he' : es[k']? = some es[k'] := List.getElem?_eq_getElem hlt'
              rw [idE_of he'] at hw'
              have hb1 : Wr1 s1 b r' (k0 * esz + j) := by unfold Wr1; rw [f1]; exact ⟨0, f4⟩
              have hid := hi.apart _ _ _ _ hw' hb1
              have hkk : k' = k := id_inj h he' he hid
              subst hkk
              obtain ⟨x, hx', hin⟩ := in_at h.cin he
              obtain ⟨esz2, rows2, row2, g1, g2, g3, rfl⟩ := hin
              rw [f1] at g1; injection g1 with g1; injection g1 with z1 z2 z3; subst z2 z3
              have hx'' : (inSn s1 es blks).σ[k']? = some (.box (row2.map .p)) := hx'
              unfold Wr1 at hk'
              rw [hx'', in_μ_elem he f1 f4] at hk'
              obtain ⟨o0, m0, hlo, hhi⟩ := hk'
              injection m0 with m0; injection m0 with _ m0; subst m0
              have hrl2 := hrow row2 (mem_of_get g3)
              simp at hhi
              rcases Nat.lt_or_ge k0 i with hlt2 | hge2
              · have := idx_lt hlt2 hj1
                omega
              · have := Nat.mul_le_mul_right esz (show i + 1 ≤ k0 by omega)
                rw [Nat.add_mul, Nat.one_mul] at this
                omega
            have := h.trans.keep.cell hnw hcell
            rw [cellAt_of q1'] at this
            exact this
    | out k hk ht hne =>
      subst ht
      have hlt : k < c'.σ.length := by rw [h.len]; exact hk
      have hg : c'.σ[k]? = some c'.σ[k] := List.getElem?_eq_getElem hlt
      have ho := h.out k _ hg
      unfold OutOk at ho
      have key : c'.σ[k]? = some (.arr wm esz rows) := by
        cases he : es[k]? with
        | some e =>
          cases e with
          | elem b e i => exact absurd he (hne b e i)
          | whole b' =>
            simp only [tgt, he, Ent.id] at hb
            rw [he] at ho
            rcases ho with ⟨cs3, l', e1, e2, e3⟩ | ⟨w, esz2, rows3, e1, e2⟩
            · rw [hb] at e3; cases e3
            · rw [hb] at e2; injection e2 with e2; rw [hg, e1, e2]
        | none =>
          simp only [tgt, he] at hb
          rw [he] at ho
          rcases ho with ⟨cs3, l', e1, e2, e3⟩ | ⟨w, esz2, rows3, e1, e2⟩
          · rw [hb] at e3; cases e3
          · rw [hb] at e2; injection e2 with e2; rw [hg, e1, e2]
      rcases h.inv.arr _ _ _ _ key with ⟨hm, hr⟩ | ⟨r, c, e, fz, hm, hq⟩
      · exact .inl ⟨by rw [out_μ h hk hne]; exact hm, hr⟩
      · exact .inr ⟨r, c, e, fz, by rw [out_μ h hk hne]; exact hm, hq⟩
  · -- apart
    intro b1 b2 r o hd h1 h2
    cases kind_of (es := es) (new := new) (kf := kf) b1 with
    | other g1 g2 => rcases hd with hd | hd; exact absurd hd g1; omega
    | out k1 hk1 ht1 hne1 =>
      subst ht1
      have w1 := (out_wr h hk1 hne1 r o).1 h1
      cases kind_of (es := es) (new := new) (kf := kf) b2 with
      | out k2 hk2 ht2 hne2 =>
        subst ht2
        have w2 := (out_wr h hk2 hne2 r o).1 h2
        rw [h.inv.apart _ _ _ _ w1 w2]
      | elem k2 e i he =>
        exfalso
        have w2 := (elem_wr h he r o).1 h2
        obtain ⟨k', hk' | ⟨e', i', hk', hkk⟩⟩ := meet hk1 w1 w2
        · have := id_inj h hk' he rfl
          subst this; rw [he] at hk'; cases hk'
        · subst hkk; exact hne1 _ _ _ hk'
      | other g1 g2 =>
        exfalso
        have w2 := (other_wr h g1 g2 r o).1 h2
        obtain ⟨k', hk' | ⟨e', i', hk', hkk⟩⟩ := meet hk1 w1 w2
        · exact g1 (mem_id hk')
        · exact g1 (mem_id hk')
    | elem k1 e1 i1 he1 =>
      have w1 := (elem_wr h he1 r o).1 h1
      cases kind_of (es := es) (new := new) (kf := kf) b2 with
      | out k2 hk2 ht2 hne2 =>
        subst ht2
        exfalso
        have w2 := (out_wr h hk2 hne2 r o).1 h2
        obtain ⟨k', hk' | ⟨e', i', hk', hkk⟩⟩ := meet hk2 w2 w1
        · have := id_inj h hk' he1 rfl
          subst this; rw [he1] at hk'; cases hk'
        · subst hkk; exact hne2 _ _ _ hk'
      | elem k2 e i he => exact hi.apart _ _ _ _ w1 ((elem_wr h he r o).1 h2)
      | other g1 g2 => exact hi.apart _ _ _ _ w1 ((other_wr h g1 g2 r o).1 h2)
  · exact fun r o hc => (h.inv.const r o hc).1
  · intro r o b hc hd hw
    cases kind_of (es := es) (new := new) (kf := kf) b with
    | other g1 g2 => rcases hd with hd | hd; exact absurd hd g1; omega
    | out k hk ht hne =>
      subst ht
      exact (h.inv.const r o hc).2 _ ((out_wr h hk hne r o).1 hw)
    | elem k e i he =>
      have w1 := (elem_wr h he r o).1 hw
      rcases h.trans.cnew r o hc with hc0 | ⟨k', hk'⟩ | hn
      · exact (hi.const r o hc0).2 _ w1
      · obtain ⟨hlt', hw'⟩ := in_wr h.cin k' _ _ hk'
        have he' : es[k']? = some es[k'] := List.getElem?_eq_getElem hlt'
        rw [idE_of he'] at hw'
        have hid := hi.apart _ _ _ _ hw' w1
        have hkk : k' = k := id_inj h he' he hid
        subst hkk
        exact (h.inv.const r o hc).2 _ ((elem_back he).1 hk')
      · have hn : s1.w.heap.size ≤ r := hn
        have := wr_lt hi _ _ _ w1; omega
  · intro r o b hc hn0 hd hw
    rcases h.trans.cnew r o hc with hc0 | ⟨k', hk'⟩ | hn
    · exact hn0 hc0
    · obtain ⟨hlt', hw'⟩ := in_wr h.cin k' _ _ hk'
      have he' : es[k']? = some es[k'] := List.getElem?_eq_getElem hlt'
      rw [idE_of he'] at hw'
      have hid := hi.apart _ _ _ _ hw' hw
      exact hd (.inl (hid ▸ mem_id he'))
    · have hn : s1.w.heap.size ≤ r := hn
      have := wr_lt hi _ _ _ hw; omega

end
end Go.Am
