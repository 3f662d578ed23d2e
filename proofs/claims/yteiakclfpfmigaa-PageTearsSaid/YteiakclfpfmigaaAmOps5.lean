/-
  The abstract machine: its operations are the model's (indexes, slices, loads).
-/
import Derived.Test.YteiakclfpfmigaaAmOps4
set_option linter.unusedSimpArgs false
set_option linter.unusedVariables false
namespace Go.Am

theorem sub_get {α : Type} {cs l : List α} {off size : Nat} (h : sub cs off size = some l) : l.length = size ∧ off + size ≤ cs.length ∧ ∀ (i : Nat), i < size → l[i]? = cs[off + i]? := by
  unfold sub at h
  split at h
  · rename_i hc
    injection h with h; subst h
    exact ⟨hc.2, by omega, fun i hi => by rw [hc.1, Nat.zero_add]⟩
  · split at h
    · rename_i hc
      injection h with h; subst h
      refine ⟨by simp; omega, hc, fun i hi => ?_⟩
      rw [List.getElem?_take, if_pos hi, List.getElem?_drop]
    · cases h

theorem unp_some : ∀ {cs : List AV} {l : List PV}, unp cs = some l → cs = l.map .p
  | [], l, h => by simp [unp] at h; simp [h]
  | x :: cs, l, h => by
    unfold unp at h
    split at h
    · simp_all
    · rename_i c r heq
      injection heq with e1 e2; subst e1 e2
      split at h
      · rename_i l' hl
        injection h with h; subst h
        simp [unp_some hl]
      · cases h
    · cases h

section
variable {P : Program} {F : Orc} {s : Sn} {a : Act} {env : List (Nat × AV)} {o : Oper} {new : Nat} {e : Eff}

/-- Cells make a value. -/
theorem ofP_rel {agg : Bool} {l : List PV} {x : AV} {vs : List Value} (h : ofPCells agg l = some x) (hl : l.length = vs.length)
    (hr : ∀ (i : Nat) y v, l[i]? = some y → vs[i]? = some v → RelP s.w s.g.C y v) :
    (agg = true ∧ RelA s x (.agg vs.toArray)) ∨ (agg = false ∧ ∃ v, vs = [v] ∧ RelA s x v) := by
  cases agg with
  | true =>
    simp [ofPCells] at h; subst h
    exact .inl ⟨rfl, .data _ _ (by simpa using hl) fun i y v hy hv => hr i y v hy (by simpa using hv)⟩
  | false =>
    simp only [ofPCells, Bool.false_eq_true, if_false] at h
    split at h
    · injection h with h; subst h
      obtain ⟨v, rfl⟩ : ∃ v, vs = [v] := List.length_eq_one_iff.1 (by simpa using hl.symm)
      exact .inr ⟨rfl, v, rfl, .p _ _ (hr 0 _ v rfl rfl)⟩
    · cases h

theorem of_rel {agg : Bool} {l : List AV} {x : AV} {vs : List Value} (h : ofCells agg l = some x) (hl : l.length = vs.length) (h1 : ∀ v ∈ vs, v.oneCell' = true)
    (hr : ∀ (i : Nat) y v, l[i]? = some y → vs[i]? = some v → RelA s y v) :
    (agg = true ∧ RelA s x (.agg vs.toArray)) ∨ (agg = false ∧ ∃ v, vs = [v] ∧ RelA s x v) := by
  cases agg with
  | true =>
    simp only [ofCells, if_true] at h
    split at h
    · rename_i q hq
      injection h with h; subst h
      have := unp_some hq; subst this
      refine .inl ⟨rfl, .data _ _ (by simpa using hl) fun i y v hy hv => ?_⟩
      have := hr i (.p y) v (by simp [hy]) (by simpa using hv)
      cases this with | p _ _ h => exact h
    · injection h with h; subst h
      exact .inl ⟨rfl, .agg _ _ (by simpa using hl) (fun i v hv => h1 v (by have := mem_of_get (l := vs) (i := i) (x := v) (by simpa using hv); exact this)) fun i y v hy hv => hr i y v hy (by simpa using hv)⟩
  | false =>
    simp only [ofCells, Bool.false_eq_true, if_false] at h
    split at h
    · injection h with h; subst h
      obtain ⟨v, rfl⟩ : ∃ v, vs = [v] := List.length_eq_one_iff.1 (by simpa using hl.symm)
      exact .inr ⟨rfl, v, rfl, hr 0 _ v rfl rfl⟩
    · cases h

/-- A part of a value. -/
theorem field_rel {agg : Bool} {off size : Nat} {x r : AV} {v : Value} {t : TypeId} (h : fieldP agg off size x = some r) (hr : RelA s x v) (ht : agT P t = some agg) (hs : szT P t = some size)
    (h1 : agg = true ∨ size = 1) : ∃ cs u, v = .agg cs ∧ (part t cs off).run P s.w = .ok u s.w ∧ RelA s r u := by
  have go : ∀ (cs : Array Value) (vs : List Value), vs.length = size → (∀ (i : Nat), i < size → vs[i]? = cs[off + i]?) → off + size ≤ cs.size →
      ((agg = true ∧ RelA s r (.agg vs.toArray)) ∨ (agg = false ∧ ∃ v, vs = [v] ∧ RelA s r v)) → ∃ u, (part t cs off).run P s.w = .ok u s.w ∧ RelA s r u := by
    intro cs vs hvl hvg hle hor
    rcases hor with ⟨rfl, hra⟩ | ⟨rfl, v, rfl, hra⟩
    · refine ⟨.agg (cs.extract off (off + size)), by simp [part, run_agg ht, run_size hs], ?_⟩
      have : cs.extract off (off + size) = vs.toArray := by
        apply Array.ext'
        rw [Array.toList_extract]
        apply List.ext_getElem?
        intro k
        simp only [List.extract, Nat.add_sub_cancel_left]
        rw [List.getElem?_take]
        split
        · rename_i hk
          rw [List.getElem?_drop, Array.getElem?_toList, hvg k hk]
        · rw [List.getElem?_eq_none (by omega)]
      rw [this]; exact hra
    · simp at hvl; subst hvl
      have h0 := hvg 0 (by omega)
      simp at h0
      exact ⟨v, by simp [part, run_agg ht, ← h0], hra⟩
  unfold fieldP at h
  split at h
  · rename_i cs
    split at h
    · rename_i l hl
      obtain ⟨k1, k2, k3⟩ := sub_get hl
      cases hr with
      | data _ vs q1 q2 =>
        have hor := ofP_rel (s := s) (vs := ((vs.toList.drop off).take size)) h (by simp; omega) (by
          intro i y v hy hv
          have hi := lt_of_get hy
          rw [k3 i (by omega)] at hy
          rw [List.getElem?_take, if_pos (by omega), List.getElem?_drop] at hv
          exact q2 _ y v hy (by simpa using hv))
        obtain ⟨u, hu, hra⟩ := go vs _ (by simp; omega) (by intro i hi; rw [List.getElem?_take, if_pos hi, List.getElem?_drop]; simp) (by omega) hor
        exact ⟨vs, u, rfl, hu, hra⟩
    · cases h
  · rename_i cs
    split at h
    · rename_i l hl
      obtain ⟨k1, k2, k3⟩ := sub_get hl
      cases hr with
      | agg _ vs q1 q0 q2 =>
        have hor := of_rel (s := s) (vs := ((vs.toList.drop off).take size)) h (by simp; omega) (by
          intro v hv
          have hv := List.mem_of_mem_drop (List.mem_of_mem_take hv)
          obtain ⟨i, hi⟩ := List.getElem?_of_mem hv
          exact q0 i v (by simpa using hi)) (by
          intro i y v hy hv
          have hi := lt_of_get hy
          rw [k3 i (by omega)] at hy
          rw [List.getElem?_take, if_pos (by omega), List.getElem?_drop] at hv
          exact q2 _ y v hy (by simpa using hv))
        obtain ⟨u, hu, hra⟩ := go vs _ (by simp; omega) (by intro i hi; rw [List.getElem?_take, if_pos hi, List.getElem?_drop]; simp) (by omega) hor
        exact ⟨vs, u, rfl, hu, hra⟩
    · cases h
  · cases h

theorem ok_field (hi : Inv s) (he : EnvRel s a.tmps env) {agg off size x} (h : (opR F (.field agg off size x) new).run ⟨env, s.σ⟩ = some e) (hc : chkOp P (.field agg off size x) o.op = true) : OpOk P o a s e := by
  simp only [opR] at h
  obtain ⟨u, h1, h'⟩ := bind_some h
  obtain ⟨r, h3, rfl⟩ := val_some h'
  clear h h'
  unfold chkOp at hc
  simp only at hc
  split at hc
  · rename_i t y f hop
    simp only [Bool.and_eq_true] at hc
    obtain ⟨hx, ht⟩ := hc
    split at ht
    · rename_i fs hfs
      split at ht
      · rename_i fl hfl
        simp only [Bool.and_eq_true, beq_iff_eq] at ht
        obtain ⟨⟨⟨h4, h5⟩, h6⟩, h7⟩ := ht
        obtain ⟨cs, v, hv, hp, hr⟩ := field_rel h3 (ev_rel he h1 hx) h6 h5 (by simpa using h7)
        exact opOk_pure hi (v := v) (by simp [execOp, hop, hv, Instr.field, run_underlying (flT_some hfs), hfl, asAgg, h4, hp]) hr
      · cases ht
    · cases ht
  · cases hc

theorem ok_sidx (hi : Inv s) (he : EnvRel s a.tmps env) {x i} (h : (opR F (.sidx x i) new).run ⟨env, s.σ⟩ = some e) (hc : chkOp P (.sidx x i) o.op = true) : OpOk P o a s e := by
  simp only [opR] at h
  obtain ⟨u, h1, h'⟩ := bind_some h
  obtain ⟨v, h2, h''⟩ := bind_some h'
  clear h h'
  unfold chkOp at hc
  simp only at hc
  split at hc
  · rename_i t y j hop
    simp only [Bool.and_eq_true] at hc
    obtain ⟨⟨hx, hj⟩, ht⟩ := hc
    have rx := ev_rel he h1 hx
    have rj := ev_rel he h2 hj
    split at h''
    · rename_i l k n
      split at h''
      · rename_i hn
        split at h''
        · rename_i b hb
          simp only [RM.run] at h''; injection h'' with h''; subst h''
          have ex := relA_s rx
          have ej := relA_i rj
          have hb' : (⟨l.toArray⟩ : ByteArray)[n.toNat]? = some b := by
            have hlt := lt_of_get hb
            rw [List.getElem?_eq_getElem hlt] at hb
            rw [getElem?_pos _ _ (by show n.toNat < ByteArray.size _; rw [bs_size]; exact hlt)]
            injection hb with hb
            rw [← hb]; rfl
          refine opOk_pure hi (v := .int .u8 b.toNat) ?_ (relA_i' _ _)
          simp [execOp, hop, ex, ej, Instr.index, asIntOf, run_underlying (isStr_iff ht), hn, hb']
        · cases h''
      · cases h''
    · cases h''
  · cases hc

theorem ok_aidx (hi : Inv s) (he : EnvRel s a.tmps env) {agg len esz x i} (h : (opR F (.aidx agg len esz x i) new).run ⟨env, s.σ⟩ = some e) (hc : chkOp P (.aidx agg len esz x i) o.op = true) : OpOk P o a s e := by
  simp only [opR] at h
  obtain ⟨u, h1, h'⟩ := bind_some h
  obtain ⟨v, h2, h''⟩ := bind_some h'
  clear h h'
  unfold chkOp at hc
  simp only at hc
  split at hc
  · rename_i t y j hop
    simp only [Bool.and_eq_true] at hc
    obtain ⟨⟨hx, hj⟩, ht⟩ := hc
    have rx := ev_rel he h1 hx
    have rj := ev_rel he h2 hj
    split at ht
    · rename_i n el har
      simp only [Bool.and_eq_true, beq_iff_eq] at ht
      obtain ⟨⟨⟨rfl, h5⟩, h6⟩, h7⟩ := ht
      split at h''
      · rename_i k m
        split at h''
        · rename_i hm
          obtain ⟨r, h3, rfl⟩ := val_some h''
          obtain ⟨cs, w, hv, hp, hr⟩ := field_rel h3 rx h6 h5 (by simpa using h7)
          have ej := relA_i rj
          exact opOk_pure hi (v := w) (by simp [execOp, hop, hv, ej, Instr.index, asIntOf, run_underlying (arT_some har), hm, run_size h5, hp]) hr
        · cases h''
      · cases h''
    · cases ht
  · cases hc

theorem ok_aaddr (hi : Inv s) (he : EnvRel s a.tmps env) {len esz x i} (h : (opR F (.aaddr len esz x i) new).run ⟨env, s.σ⟩ = some e) (hc : chkOp P (.aaddr len esz x i) o.op = true) : OpOk P o a s e := by
  simp only [opR] at h
  obtain ⟨u, h1, h'⟩ := bind_some h
  obtain ⟨v, h2, h''⟩ := bind_some h'
  obtain ⟨r, h3, rfl⟩ := val_some h''
  clear h h' h''
  unfold chkOp at hc
  simp only at hc
  split at hc
  · rename_i t y j hop
    simp only [Bool.and_eq_true] at hc
    obtain ⟨⟨hx, hj⟩, ht⟩ := hc
    have rx := ev_rel he h1 hx
    have rj := ev_rel he h2 hj
    split at ht
    · rename_i n el har
      simp only [Bool.and_eq_true, beq_iff_eq] at ht
      obtain ⟨rfl, h5⟩ := ht
      unfold aaddrP at h3
      split at h3
      · rename_i k m
        split at h3
        · rename_i hm
          have ej := relA_i rj
          have go : ∀ (r o' : Nat), a.eval y = .pointer (some ⟨r, o', none⟩) → (execOp a.eval o).run P s.w = .ok (.value (.pointer (some ⟨r, o' + m.toNat * esz, none⟩))) s.w := by
            intro r o' hz
            simp [execOp, hop, hz, ej, Instr.indexAt, asIntOf, run_underlying (arT_some har), Instr.sureAddr, hm, run_size h5, add_addr]
          generalize hz : a.eval y = z at rx
          split at h3 <;> first | (injection h3 with h3; subst h3) | cases h3
          · cases rx with
            | ptr _ _ r o' m' hb => exact opOk_pure hi (go _ _ hz) (by rw [Nat.add_assoc]; exact .ptr _ _ r o' m' hb)
          · cases rx with
            | cp cs _ r o' vals p1 p2 => exact opOk_pure hi (go _ _ hz) (by rw [Nat.add_assoc]; exact .cp _ _ r o' vals p1 p2)
          · cases rx with
            | ep _ _ _ _ _ wm esz' rows p0 p1 p2 p3 =>
              obtain ⟨r, o', rfl⟩ := p0
              refine opOk_pure hi (go _ _ hz) (.ep _ _ _ _ _ wm esz' rows ⟨_, _, rfl⟩ p1 p2 fun e1 e2 => ?_)
              obtain ⟨r', m', hv⟩ := p3 e1 e2
              simp at hv
              obtain ⟨rfl, rfl⟩ := hv
              exact ⟨r, m', by rw [Nat.add_assoc]⟩
        · cases h3
      · cases h3
    · cases ht
  · cases hc

theorem ok_iaddr (hi : Inv s) (he : EnvRel s a.tmps env) {esz x i} (h : (opR F (.iaddr esz x i) new).run ⟨env, s.σ⟩ = some e) (hc : chkOp P (.iaddr esz x i) o.op = true) : OpOk P o a s e := by
  simp only [opR] at h
  obtain ⟨u, h1, h'⟩ := bind_some h
  obtain ⟨v, h2, h''⟩ := bind_some h'
  clear h h'
  unfold chkOp at hc
  simp only at hc
  split at hc
  · rename_i t y j hop
    simp only [Bool.and_eq_true] at hc
    obtain ⟨⟨hx, hj⟩, ht⟩ := hc
    have rx := ev_rel he h1 hx
    have rj := ev_rel he h2 hj
    split at ht
    · rename_i el hel
      simp only [beq_iff_eq] at ht
      have go : ∀ (r o' len cap : Nat) k (m : Int), a.eval j = .int k m → a.eval y = .slice (some ⟨r, o', none⟩) len cap → 0 ≤ m → m < len →
          (execOp a.eval o).run P s.w = .ok (.value (.pointer (some ⟨r, o' + m.toNat * esz, none⟩))) s.w := by
        intro r o' len cap k m ej hz h0 hlt
        simp [execOp, hop, hz, ej, Instr.indexAt, asIntOf, run_underlying (elT_some hel), h0, hlt, run_size ht, add_addr]
      unfold iaddrR at h''
      split at h''
      · rename_i esz' rows k n
        split at h''
        · rename_i hez; subst hez
          split at h''
          · rename_i row hrow
            simp only [RM.run] at h''; injection h'' with h''; subst h''
            unfold rowAt at hrow
            split at hrow
            · rename_i hn
              have ej := relA_i rj
              generalize hz : a.eval y = z at rx
              cases rx with
              | p _ _ rp =>
                cases rp with
                | sl0 _ ad cap => simp at hrow
                | sl _ _ r o' cap vals p1 p2 p3 p4 =>
                  have hlt := lt_of_get hrow
                  refine opOk_pure hi (go r o' _ cap k n ej hz hn (by omega)) ?_
                  have := RelA.cp (s := s) row 0 r (o' + n.toNat * esz) (fun j => vals n.toNat j) (fun j x hx => p3 n.toNat j row x hrow hx) (fun j x hx => p4 n.toNat j row x hrow hx)
                  simpa using this
            · cases hrow
          · cases h''
        · cases h''
      · rename_i b j' m k n
        simp only [RM.run] at h''
        split at h''
        · rename_i blk hb
          split at h''
          · rename_i wm esz' rows
            split at h''
            · rename_i hcnd
              obtain ⟨rfl, hjm, hn, hnm⟩ := hcnd
              simp only [RM.run] at h''; injection h'' with h''; subst h''
              have ej := relA_i rj
              generalize hz : a.eval y = z at rx
              cases rx with
              | slr _ _ _ _ wm' esz' rows' q0 q1 q2 q3 =>
                have hb' : s.σ[b]? = some (.arr wm esz rows) := hb
                rw [hb'] at q1; injection q1 with q1; injection q1 with a1 a2 a3; subst a1 a2 a3
                rcases q3 hjm with ⟨_, _, hm0, _⟩ | ⟨r, cap, c, e1, fz, m', hv, hcap, hh, hs⟩
                · omega
                · subst hv
                  refine opOk_pure hi (go r _ _ cap k n ej hz hn (by omega)) (.ep _ _ _ _ _ wm esz rows ⟨_, _, rfl⟩ hb' (Nat.le_refl _) fun _ _ => ⟨r, m', ?_⟩)
                  simp [Nat.add_mul]
            · cases h''
          · cases h''
        · cases h''
      · cases h''
    · cases ht
  · cases hc

end
end Go.Am
