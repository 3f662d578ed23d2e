/-
  The abstract machine: its operations are the model's (loads, stores, boxes).
-/
import Derived.Test.YteiakclfpfmigaaAmOps6
set_option linter.unusedSimpArgs false
set_option linter.unusedVariables false
namespace Go.Am
section
variable {P : Program} {F : Orc} {s : Sn} {a : Act} {env : List (Nat × AV)} {o : Oper} {new : Nat} {e : Eff}

theorem RelP.mono_of {s : Sn} {x v} (h : RelP s.w s.g.C x v) : RelA s (.p x) v := .p _ _ h

/-- What a load reads. -/
theorem loadR_rel (hi : Inv s) {agg : Bool} {size : Nat} {x : AV} {v : Value} (h : (loadR agg size x).run ⟨env, s.σ⟩ = some e) (hr : RelA s x v) :
    ∃ r o vs, v = .pointer (some ⟨r, o, none⟩) ∧ vs.length = size ∧ (∀ (k : Nat) u, vs[k]? = some u → cellAt s.w r (o + k) = some u) ∧ e.ws = [] ∧
      ((agg = true ∧ RelA s e.val (.agg vs.toArray)) ∨ (agg = false ∧ ∃ u, vs = [u] ∧ RelA s e.val u)) := by
  unfold loadR at h
  split at h
  · rename_i cs off
    split at h
    · rename_i l hl
      obtain ⟨r', h3, rfl⟩ := val_some h
      obtain ⟨k1, k2, k3⟩ := sub_get hl
      cases hr with
      | cp _ _ r o vals p1 p2 =>
        have hg : ∀ (i : Nat) y u, l[i]? = some y → ((List.range size).map fun i => vals (off + i))[i]? = some u → RelP s.w s.g.C y u := by
          intro i y u hy hu
          have := lt_of_get hy
          rw [k3 i (by omega)] at hy
          rw [List.getElem?_map, List.getElem?_range (by omega)] at hu
          injection hu with hu; subst hu
          exact p2 _ y hy
        refine ⟨r, o + off, (List.range size).map fun i => vals (off + i), rfl, by simp, fun k u hu => ?_, rfl, ofP_rel h3 (by simp [k1]) hg⟩
        have hlt := lt_of_get hu
        simp at hlt
        rw [List.getElem?_map, List.getElem?_range hlt] at hu
        injection hu with hu; subst hu
        have : off + k < cs.length := by omega
        have := (p1 (off + k) _ (List.getElem?_eq_getElem this)).2
        rwa [Nat.add_assoc]
    · cases h
  · rename_i b off
    simp only [RM.run] at h
    split at h
    · rename_i blk hb
      split at h
      · rename_i cs
        split at h
        · rename_i l hl
          obtain ⟨r', h3, rfl⟩ := val_some h
          obtain ⟨k1, k2, k3⟩ := sub_get hl
          cases hr with
          | ptr _ _ r o m hbx =>
            obtain ⟨r1, o1, c, e1, fz, m', hh, hle, hx, hf⟩ := hi.box b cs hb
            rw [m] at m'; injection m' with m'; injection m' with m1 m2; subst m1 m2
            have hcell : ∀ k, k < size → ∃ u, c[o + (off + k)]? = some u ∧ u.oneCell' = true ∧ ∀ y, l[k]? = some y → RelA s y u := by
              intro k hk
              have hlt : off + k < cs.length := by omega
              obtain ⟨u, hu, hr, h1⟩ := hx (off + k) _ (List.getElem?_eq_getElem hlt)
              refine ⟨u, hu, h1, fun y hy => ?_⟩
              rw [k3 k hk, List.getElem?_eq_getElem hlt] at hy
              injection hy with hy; subst hy; exact hr
            refine ⟨r, o + off, (List.range size).map fun i => (c[o + (off + i)]?).getD .nilFunc, rfl, by simp, fun k u hu => ?_, rfl, of_rel h3 (by simp [k1]) (fun v hv => ?_) fun i y u hy hu => ?_⟩
            · have hlt := lt_of_get hu
              simp at hlt
              rw [List.getElem?_map, List.getElem?_range hlt] at hu
              obtain ⟨u', hu', _⟩ := hcell k hlt
              simp [hu'] at hu; subst hu
              rw [cellAt_of hh, ← hu', Nat.add_assoc]
            · obtain ⟨i, hi', rfl⟩ := List.mem_map.1 hv
              obtain ⟨u', hu', h1, _⟩ := hcell i (by simpa using hi')
              simpa [hu'] using h1
            · have hlt := lt_of_get hy
              rw [List.getElem?_map, List.getElem?_range (by omega)] at hu
              obtain ⟨u', hu', _, h2⟩ := hcell i (by omega)
              simp [hu'] at hu; subst hu
              exact h2 y hy
        · cases h
      · cases h
    · cases h
  · rename_i b ext i off
    simp only [RM.run] at h
    split at h
    · rename_i blk hb
      split at h
      · rename_i wm esz rows
        split at h
        · rename_i hext
          split at h
          · rename_i row hrow
            split at h
            · rename_i l hl
              obtain ⟨r', h3, rfl⟩ := val_some h
              obtain ⟨k1, k2, k3⟩ := sub_get hl
              have hb' : s.σ[b]? = some (.arr wm esz rows) := hb
              cases hr with
              | ep _ _ _ _ _ wm' esz' rows' p0 p1 p2 p3 =>
                rw [hb'] at p1; injection p1 with p1; injection p1 with a1 a2 a3; subst a1 a2 a3
                have hlt := lt_of_get hrow
                obtain ⟨r, m, hv⟩ := p3 hext (by omega)
                rcases hi.arr b _ _ _ hb' with ⟨m', _⟩ | ⟨r1, c, e1, fz, m', hh, hrl, hle, hx, hf⟩
                · rw [m] at m'; cases m'
                · rw [m] at m'; injection m' with m'; injection m' with m1 _; subst m1
                  have hcell : ∀ k, k < size → ∃ u, c[i * esz + (off + k)]? = some u ∧ ∀ y, l[k]? = some y → RelP s.w s.g.C y u := by
                    intro k hk
                    have hlt : off + k < row.length := by omega
                    obtain ⟨⟨u, hu, hr⟩, _⟩ := hx i (off + k) row _ hrow (List.getElem?_eq_getElem hlt)
                    refine ⟨u, hu, fun y hy => ?_⟩
                    rw [k3 k hk, List.getElem?_eq_getElem hlt] at hy
                    injection hy with hy; subst hy; exact hr
                  refine ⟨r, i * esz + off, (List.range size).map fun k => (c[i * esz + (off + k)]?).getD .nilFunc, hv, by simp, fun k u hu => ?_, rfl, ofP_rel h3 (by simp [k1]) fun k y u hy hu => ?_⟩
                  · have hlt := lt_of_get hu
                    simp at hlt
                    rw [List.getElem?_map, List.getElem?_range hlt] at hu
                    obtain ⟨u', hu', _⟩ := hcell k hlt
                    simp [hu'] at hu; subst hu
                    rw [cellAt_of hh, ← hu', Nat.add_assoc]
                  · have hlt := lt_of_get hy
                    rw [List.getElem?_map, List.getElem?_range (by omega)] at hu
                    obtain ⟨u', hu', h2⟩ := hcell k (by omega)
                    simp [hu'] at hu; subst hu
                    exact h2 y hy
            · cases h
          · cases h
        · cases h
      · cases h
    · cases h
  · cases h

theorem run_loadVar {t : TypeId} {agg : Bool} {size : Nat} (ht : agT P t = some agg) (hs : szT P t = some size) {r o : Nat} {vs : List Value} {w : World} (hl : vs.length = size)
    (h : ∀ (k : Nat) u, vs[k]? = some u → cellAt w r (o + k) = some u) :
    (agg = true → (loadVar t ⟨r, o, none⟩).run P w = .ok (.agg vs.toArray) w) ∧ (agg = false → ∀ u, vs = [u] → (loadVar t ⟨r, o, none⟩).run P w = .ok u w) := by
  constructor
  · rintro rfl
    subst hl
    simp [loadVar, run_agg ht, run_size hs, run_loads vs h]
  · rintro rfl u rfl
    have := h 0 u rfl
    simp [loadVar, run_agg ht, run_load, cell_at, this] 
    simp at this
    simp [this]

theorem ok_load (hi : Inv s) (he : EnvRel s a.tmps env) {agg size x} (h : (opR F (.load agg size x) new).run ⟨env, s.σ⟩ = some e) (hc : chkOp P (.load agg size x) o.op = true) : OpOk P o a s e := by
  simp only [opR] at h
  obtain ⟨u, h1, h'⟩ := bind_some h
  clear h
  unfold chkOp at hc
  simp only at hc
  split at hc
  · rename_i t y hop
    simp only [Bool.and_eq_true, beq_iff_eq] at hc
    obtain ⟨⟨⟨ht, hs⟩, hx⟩, h7⟩ := hc
    obtain ⟨r, o', vs, hv, hl, hcell, hws, hor⟩ := loadR_rel hi h' (ev_rel he h1 hx)
    obtain ⟨k1, k2⟩ := run_loadVar (P := P) ht hs hl hcell
    obtain ⟨ev, ew⟩ := e
    simp only at hws hor
    subst hws
    rcases hor with ⟨rfl, hr⟩ | ⟨rfl, q, rfl, hr⟩
    · exact opOk_pure hi (v := .agg vs.toArray) (by simp [execOp, hop, hv, Instr.loadAt, Instr.sureAddr, k1]) hr
    · exact opOk_pure hi (v := q) (by simp [execOp, hop, hv, Instr.loadAt, Instr.sureAddr, k2]) hr
  · cases hc

theorem cellsOf_rel {x : AV} {l : List AV} {v : Value} (h : cellsOf x = some l) (hr : RelA s x v) :
    l.length = v.cells.size ∧ (∀ u ∈ v.cells.toList, u.oneCell' = true) ∧ ∀ (i : Nat) y u, l[i]? = some y → v.cells[i]? = some u → RelA s y u := by
  have single : ∀ {z : AV}, RelA s z v → v.cells = #[v] → v.oneCell' = true → l = [z] → l.length = v.cells.size ∧ (∀ u ∈ v.cells.toList, u.oneCell' = true) ∧ ∀ (i : Nat) y u, l[i]? = some y → v.cells[i]? = some u → RelA s y u := by
    rintro z hz hc h1 rfl
    refine ⟨by rw [hc]; rfl, by rw [hc]; simpa using h1, fun i y u hy hu => ?_⟩
    rw [hc] at hu
    cases i with
    | zero => simp at hy hu; subst hy hu; exact hz
    | succ i => simp at hy
  cases hr with
  | p c _ hp => simp [cellsOf] at h; exact single (.p _ _ hp) hp.cells1 hp.one h.symm
  | data cs vs h1 h2 =>
    simp [cellsOf] at h; subst h
    refine ⟨by simpa [Value.cells] using h1, fun u hu => ?_, fun i y u hy hu => ?_⟩
    · obtain ⟨i, hi⟩ := List.getElem?_of_mem hu
      have hi : vs[i]? = some u := by simpa [Value.cells] using hi
      have hlt := lt_of_getA hi
      exact (h2 i cs[i] u (by rw [List.getElem?_eq_getElem]) hi).one
    · rw [List.getElem?_map] at hy
      cases hcs : cs[i]? with
      | none => simp [hcs] at hy
      | some c =>
        simp [hcs] at hy; subst hy
        exact .p _ _ (h2 i c u hcs hu)
  | agg cs vs h1 h0 h2 =>
    simp [cellsOf] at h; subst h
    refine ⟨by simpa [Value.cells] using h1, fun u hu => ?_, fun i y u hy hu => h2 i y u hy hu⟩
    obtain ⟨i, hi⟩ := List.getElem?_of_mem hu
    exact h0 i u (by simpa [Value.cells] using hi)
  | tup => simp [cellsOf] at h
  | unk => simp [cellsOf] at h
  | ptr b off r o m hb => simp [cellsOf] at h; exact single (.ptr b off r o m hb) rfl rfl h.symm
  | cp cs off r o vals p1 p2 => simp [cellsOf] at h; exact single (.cp cs off r o vals p1 p2) rfl rfl h.symm
  | slr b i n _ wm esz rows p0 p1 p2 p3 =>
    obtain ⟨ad, cap, rfl, hn⟩ := p0
    simp [cellsOf] at h
    exact single (.slr b i n _ wm esz rows ⟨ad, cap, rfl, hn⟩ p1 p2 p3) rfl rfl h.symm
  | ep b ext i off _ wm esz rows p0 p1 p2 p3 =>
    obtain ⟨r, o, rfl⟩ := p0
    simp [cellsOf] at h
    exact single (.ep b ext i off _ wm esz rows ⟨r, o, rfl⟩ p1 p2 p3) rfl rfl h.symm
  | fn f first caps fs cs h1 h2 h3 h4 => simp [cellsOf] at h; exact single (.fn f first caps fs cs h1 h2 h3 h4) rfl rfl h.symm

theorem ok_box (hi : Inv s) (he : EnvRel s a.tmps env) (hn : s.σ[new]? = some .dead) {size x} (h : (opR F (.box size x) new).run ⟨env, s.σ⟩ = some e) (hc : chkOp P (.box size x) o.op = true) : OpOk P o a s e := by
  simp only [opR] at h
  obtain ⟨u, h1, h'⟩ := bind_some h
  clear h
  unfold chkOp at hc
  simp only at hc
  split at hc
  · rename_i t y hop
    have hr := ev_rel he h1 hc
    split at h'
    · rename_i cs hcs
      split at h'
      · simp only [RM.run] at h'; injection h' with h'; subst h'
        obtain ⟨k1, k2, k3⟩ := cellsOf_rel hcs hr
        obtain ⟨i', t'⟩ := own_new hi hn (blk := .box cs) (c := (a.eval y).cells) (e := t) (fz := (0, 0)) (w' := { s.w with heap := s.w.heap.push (.cells (a.eval y).cells t) }) rfl rfl rfl
          (fun o _ _ h => by simp at h) ⟨by omega, fun i x hx => by
            have hlt := lt_of_get hx
            have hlt' : i < (a.eval y).cells.size := by omega
            exact ⟨(a.eval y).cells[i], by simp, k3 i x _ hx (by simp), k2 _ (by simp)⟩⟩
        refine opOk_val (e := ⟨.ptr new 0, [(new, .box cs)]⟩) (v := .pointer (some ⟨s.w.heap.size, 0, none⟩)) ?_ i' t' (.ptr new 0 _ 0 (if_pos rfl) ⟨cs, get_set_self hn⟩)
        simp [execOp, hop, Instr.box, newVar, newRow]
      · cases h'
    · cases h'
  · cases hc

theorem zeOk_cells {zero : List PV} {t : TypeId} (h : zeOk P zero t = true) : ∃ v, zeT P t = some v ∧ zero.length = v.cells.size ∧
    ∀ {w C} (i : Nat) x u, zero[i]? = some x → v.cells[i]? = some u → RelP w C x u := by
  unfold zeOk at h
  split at h
  · rename_i v hv
    refine ⟨v, hv, ?_, fun i x u hx hu => ?_⟩
    · simpa using (okPL_rel (w := default) (C := fun _ _ => True) h).1
    · exact (okPL_rel h).2 i x u hx (by simpa using hu)
  · cases h

theorem run_zero {t : TypeId} {v : Value} (h : zeT P t = some v) (w : World) : (zeroValue t).run P w = .ok v w := by
  unfold zeT at h
  cases hi : P.info? t with
  | none => rw [hi] at h; cases h
  | some i => rw [hi] at h; simp at h; simp [zeroValue, run_typeInfo hi, h]

theorem ok_newbox (hi : Inv s) (hn : s.σ[new]? = some .dead) {zero} (h : (opR F (.newbox zero) new).run ⟨env, s.σ⟩ = some e) (hc : chkOp P (.newbox zero) o.op = true) : OpOk P o a s e := by
  simp only [opR, RM.run] at h
  injection h with h; subst h
  unfold chkOp at hc
  simp only at hc
  split at hc
  · rename_i t hop
    obtain ⟨v, hv, hl, hr⟩ := zeOk_cells hc
    obtain ⟨i', t'⟩ := own_new hi hn (blk := .box (zero.map .p)) (c := v.cells) (e := t) (fz := (0, 0)) (w' := { s.w with heap := s.w.heap.push (.cells v.cells t) }) rfl rfl rfl
      (fun o _ _ h => by simp at h) ⟨by simp [hl], fun i x hx => by
        rw [List.getElem?_map] at hx
        cases hz : zero[i]? with
        | none => simp [hz] at hx
        | some c =>
          simp [hz] at hx; subst hx
          have hlt := lt_of_get hz
          have hlt' : i < v.cells.size := by omega
          have := hr (w := s.w) (C := s.g.C) i c v.cells[i] hz (by simp)
          exact ⟨v.cells[i], by simp, .p _ _ this, this.one⟩⟩
    refine opOk_val (e := ⟨.ptr new 0, [(new, .box (zero.map .p))]⟩) (v := .pointer (some ⟨s.w.heap.size, 0, none⟩)) ?_ i' t' (.ptr new 0 _ 0 (if_pos rfl) ⟨_, get_set_self hn⟩)
    simp [execOp, hop, Instr.alloc, run_zero hv, newVar, newRow]
  · cases hc

theorem ok_mkarr (hi : Inv s) (hn : s.σ[new]? = some .dead) {esz x} (h : (opR F (.mkarr esz x) new).run ⟨env, s.σ⟩ = some e) (hc : chkOp P (.mkarr esz x) o.op = true) : OpOk P o a s e := by
  simp only [opR, RM.run] at h
  injection h with h; subst h
  obtain ⟨i', t'⟩ := nil_new hi hn esz
  have hrel : RelA ⟨s.σ.set new (.arr true esz []), newμ s.g new none, s.w⟩ (.slr new 0 0) (.slice none 0 0) :=
    .slr new 0 0 _ true esz [] ⟨none, 0, rfl, .inl rfl⟩ (get_set_self hn) (Nat.le_refl _) fun _ => .inl ⟨if_pos rfl, rfl, rfl, rfl⟩
  unfold chkOp at hc
  simp only at hc
  split at hc
  · rename_i hop
    exact opOk_val (e := ⟨.slr new 0 0, [(new, .arr true esz [])]⟩) (v := .slice none 0 0) (by simp only [execOp, hop]; rfl) i' t' hrel
  · rename_i hop
    exact opOk_val (e := ⟨.slr new 0 0, [(new, .arr true esz [])]⟩) (v := .slice none 0 0) (by simp only [execOp, hop]; rfl) i' t' hrel
  · cases hc

theorem spl_get {α : Type} {cs vs cs' : List α} {off : Nat} (h : spl cs off vs = some cs') : cs'.length = cs.length ∧ off + vs.length ≤ cs.length ∧
    (∀ (i : Nat), i < vs.length → cs'[off + i]? = vs[i]?) ∧ ∀ k, (k < off ∨ off + vs.length ≤ k) → cs'[k]? = cs[k]? := by
  unfold spl at h
  split at h
  · rename_i hc
    injection h with h; subst h
    obtain ⟨rfl, hl⟩ := hc
    refine ⟨hl.symm, by omega, fun i _ => by rw [Nat.zero_add], fun k hk => ?_⟩
    rw [List.getElem?_eq_none (by omega), List.getElem?_eq_none (by omega)]
  · split at h
    · rename_i hc
      injection h with h; subst h
      refine ⟨by simp; omega, hc, fun i hi => ?_, fun k hk => ?_⟩
      · rw [List.append_assoc, List.getElem?_append_right (by simp; omega), List.getElem?_append_left (by simp; omega)]
        simp
        congr 1
        omega
      · rcases hk with hk | hk
        · rw [List.append_assoc, List.getElem?_append_left (by simp; omega), List.getElem?_take, if_pos hk]
        · rw [List.getElem?_append_right (by simp; omega), List.getElem?_drop]
          congr 1
          simp; omega
    · cases h

theorem run_stores {w : World} {r o : Nat} {vs : List Value} {c : Array Value} {et : TypeId} {fz : Nat × Nat} (hh : w.heap[r]? = some (.cells c et fz)) (hl : o + vs.length ≤ c.size)
    (hf : Free fz o (o + vs.length)) (h1 : ∀ v ∈ vs, v.oneCell' = true) : (storeCells ⟨r, o, none⟩ vs).run P w = .ok () (w.setCells r o vs) := by
  have := run_storeCells_cells (P := P) r o vs 0 w
    (fun j hj => by rw [cell_at, cellAt_of hh]; simp; omega)
    (fun j hj => by
      have := hf (o + 0 + j) (by omega) (by omega)
      simp only [World.frozen?, hh]
      simpa using this) h1
  simpa using this

theorem run_storeVar {t : TypeId} {v : Value} {w : World} {r o : Nat} {c : Array Value} {et : TypeId} {fz : Nat × Nat} (hs : szT P t = some v.cells.size) (hh : w.heap[r]? = some (.cells c et fz)) (hl : o + v.cells.size ≤ c.size)
    (hf : Free fz o (o + v.cells.size)) (h1 : ∀ u ∈ v.cells.toList, u.oneCell' = true) : (storeVar t ⟨r, o, none⟩ v).run P w = .ok () (w.setCells r o v.cells.toList) := by
  have := run_stores (P := P) (vs := v.cells.toList) hh (by simpa using hl) (by simpa using hf) h1
  simp [storeVar, run_size hs, this]

theorem opOk_skip {o : Oper} {e : Eff} {w' : World} {g' : Gh} (hr : (execOp a.eval o).run P s.w = .ok .skip w') (hev : e.val = undefV)
    (hi : Inv ⟨upd e.ws s.σ, g', w'⟩) (t : Trans s ⟨upd e.ws s.σ, g', w'⟩) : OpOk P o a s e := by
  intro next Q h
  simp only [Oper.wp, hr, Oper.upon]
  exact h undef w' g' hi t (by rw [hev]; exact .tup _ _ rfl fun i x v h => by simp at h)

theorem upd_ne {b : Nat} : ∀ {ws : List (Nat × Blk)} {σ : List Blk}, (ws.all fun y => y.1 != b) = true → (upd ws σ)[b]? = σ[b]?
  | [], _, _ => rfl
  | y :: ws, σ, h => by
    simp only [List.all_cons, Bool.and_eq_true, bne_iff_ne] at h
    show (upd ws (σ.set y.1 y.2))[b]? = _
    rw [upd_ne h.2, get_set_ne h.1]

theorem ok_store (hi : Inv s) (he : EnvRel s a.tmps env) {size x y} (h : (opR F (.store size x y) new).run ⟨env, s.σ⟩ = some e) (hc : chkOp P (.store size x y) o.op = true) : OpOk P o a s e := by
  simp only [opR] at h
  obtain ⟨u, h1, h'⟩ := bind_some h
  obtain ⟨v, h2, h''⟩ := bind_some h'
  clear h h'
  unfold chkOp at hc
  simp only at hc
  split at hc
  · rename_i t x' y' hop
    simp only [Bool.and_eq_true, beq_iff_eq] at hc
    obtain ⟨⟨hs, hx⟩, hy⟩ := hc
    have rx := ev_rel he h1 hx
    have ry := ev_rel he h2 hy
    have hex : ∀ {r o' : Nat} {w' : World}, a.eval x' = .pointer (some ⟨r, o', none⟩) → (storeVar t ⟨r, o', none⟩ (a.eval y')).run P s.w = .ok () w' → (execOp a.eval o).run P s.w = .ok .skip w' := by
      intro r o' w' hz hst
      simp [execOp, hop, hz, Instr.storeAt, Instr.sureAddr, hst]
    unfold storeR at h''
    split at h''
    · rename_i b off
      simp only [RM.run] at h''
      split at h''
      · rename_i blk hb
        split at h''
        · rename_i cs
          split at h''
          · rename_i l hl
            split at h''
            · rename_i hsz
              split at h''
              · rename_i cs' hcs'
                simp only [RM.run] at h''; injection h'' with h''; subst h''
                have hb : s.σ[b]? = some (.box cs) := hb
                generalize hz : a.eval x' = z at rx
                cases rx with
                | ptr _ _ r o' m hbx =>
                  obtain ⟨k1, k2, k3⟩ := cellsOf_rel hl ry
                  obtain ⟨j1, j2, j3, j4⟩ := spl_get hcs'
                  obtain ⟨r1, o1, c, e1, fz, m', hh, hle, hxx, hf⟩ := hi.box b cs hb
                  rw [m] at m'; injection m' with m'; injection m' with m1 m2; subst m1 m2
                  have hput := put_setCells (vs := (a.eval y').cells.toList) (o := o' + off) hh (by simp; omega)
                  have hlen : (a.eval y').cells.toList.length = l.length := by simp [k1]
                  obtain ⟨i', t'⟩ := write_blk hi (blk := .box cs') hb hput (fun k h1 h2 => by
                      unfold Wr1; rw [hb]; exact ⟨o', m, by omega, by omega⟩) (.box _ _ j1) (fun cs0 heq mono => by
                      injection heq with heq; subst heq
                      obtain ⟨c0, e0, fz0, c', p1, p2, p3, p4, p5, p6⟩ := hput.there
                      rw [hh] at p1; injection p1 with p1; injection p1 with q1 q2 q3; subst q1 q2 q3
                      refine ⟨r, o', c', e1, fz, m, p2, by omega, fun i x hxi => ?_, by rw [j1]; exact hf⟩
                      by_cases hin : off ≤ i ∧ i < off + l.length
                      · have e1 : cs'[off + (i - off)]? = l[i - off]? := j3 (i - off) (by omega)
                        rw [show off + (i - off) = i by omega, hxi] at e1
                        have hlt : i - off < (a.eval y').cells.size := by omega
                        have e2 := p5 (i - off) (a.eval y').cells[i - off] (by simp)
                        refine ⟨(a.eval y').cells[i - off], by rw [← e2]; congr 1; omega, mono (k3 (i - off) x _ e1.symm (by simp)), k2 _ (by simp)⟩
                      · rw [j4 i (by omega)] at hxi
                        obtain ⟨v', hv', hr', h1'⟩ := hxx i x hxi
                        exact ⟨v', by rw [p6 _ (by simp; omega)]; exact hv', mono hr', h1'⟩)
                      (fun _ _ heq => by cases heq)
                  refine opOk_skip (e := ⟨undefV, [(b, .box cs')]⟩) (hex hz (run_storeVar (by rw [hs, ← hsz, k1]) hh (by omega) (fun k h1 h2 => hf k (by omega) (by omega)) k2)) rfl i' t'
              · cases h''
            · cases h''
          · cases h''
        · cases h''
      · cases h''
    · rename_i b ext i off
      simp only [RM.run] at h''
      split at h''
      · rename_i blk hb
        split at h''
        · rename_i esz rows
          split at h''
          · rename_i hext
            split at h''
            · rename_i row hrow
              obtain ⟨y2, h3, h4⟩ := bind_some h''
              split at h4
              · rename_i hcond
                split at h4
                · rename_i row' hrow'
                  simp only [RM.run] at h4; injection h4 with h4; subst h4
                  have hb : s.σ[b]? = some (.arr true esz rows) := hb
                  obtain ⟨hsz, hall⟩ := hcond
                  obtain ⟨g1, i1, t1, f1, l1, r1⟩ := fz_rel hi (.refl _) h3 ry
                  have hb1 : (upd y2.2 s.σ)[b]? = some (.arr true esz rows) := by rw [upd_ne hall]; exact hb
                  have rx1 := rx.mono hi t1
                  obtain ⟨j1, j2, j3, j4⟩ := spl_get hrow'
                  have hone : ∀ u ∈ (a.eval y').cells.toList, u.oneCell' = true := by
                    intro u hu
                    obtain ⟨k, hk⟩ := List.getElem?_of_mem hu
                    have hk : (a.eval y').cells[k]? = some u := by simpa using hk
                    have hlt := lt_of_getA hk
                    exact (r1 k y2.1[k] u (by rw [List.getElem?_eq_getElem]) hk).one
                  generalize hz : a.eval x' = z at rx1
                  cases rx1 with
                  | ep _ _ _ _ _ wm' esz' rows' p0 p1 p2 p3 =>
                    have p1 : (upd y2.2 s.σ)[b]? = some (.arr wm' esz' rows') := p1
                    rw [hb1] at p1; injection p1 with p1; injection p1 with a1 a2 a3; subst a1 a2 a3
                    have hlt := lt_of_get hrow
                    obtain ⟨r, m, hv⟩ := p3 hext (by omega)
                    rcases i1.arr b _ _ _ hb1 with ⟨m', _⟩ | ⟨rr, c, e1, fz, m', hh, hrl, hle, hxx, hf⟩
                    · rw [m] at m'; cases m'
                    · rw [m] at m'; injection m' with m'; injection m' with m1 _; subst m1
                      have hrlen := hrl row (mem_of_get hrow)
                      have hlen : (a.eval y').cells.toList.length = y2.1.length := by simp [l1]
                      have hbnd : i * esz + esz ≤ rows.length * esz := by
                        have := Nat.mul_le_mul_right esz (show i + 1 ≤ rows.length from hlt)
                        rwa [Nat.add_mul, Nat.one_mul] at this
                      have hh' : s.w.heap[r]? = some (.cells c e1 fz) := hh
                      have hput := put_setCells (vs := (a.eval y').cells.toList) (o := i * esz + off) hh' (by rw [hlen]; omega)
                      obtain ⟨i2, t2⟩ := write_blk (s0 := ⟨upd y2.2 s.σ, g1, s.w⟩) i1 (blk := .arr true esz (rows.set i row')) hb1 hput (fun k h1 h2 => by
                          unfold Wr1; rw [hb1]; exact ⟨0, m⟩) (.arr _ _ _ (by simp)) (fun _ heq => by cases heq) (fun esz0 rows0 heq mono => by
                          injection heq with _ h1 h2; subst h1 h2
                          obtain ⟨c0, e0, fz0, c', q1, q2, q3, q4, q5, q6⟩ := hput.there
                          rw [hh'] at q1; injection q1 with q1; injection q1 with w1 w2 w3; subst w1 w2 w3
                          refine .inr ⟨r, c', e1, fz, m, q2, fun rw0 hrw => ?_, by simp; omega, fun k j row0 x0 hk hj => ⟨?_, fun h => by cases h⟩, by rw [q3]; exact hf⟩
                          · rcases List.mem_or_eq_of_mem_set hrw with hm | hm
                            · exact hrl _ hm
                            · subst hm; omega
                          · have hjlt := lt_of_get hj
                            by_cases hki : k = i
                            · subst hki
                              rw [List.getElem?_set_self hlt] at hk
                              injection hk with hk; subst hk
                              by_cases hin : off ≤ j ∧ j < off + y2.1.length
                              · have e1 := j3 (j - off) (by omega)
                                rw [show off + (j - off) = j by omega, hj] at e1
                                have hlt' : j - off < (a.eval y').cells.size := by omega
                                have e2 := q5 (j - off) (a.eval y').cells[j - off] (by simp)
                                refine ⟨(a.eval y').cells[j - off], by rw [← e2]; congr 1; omega, mono (r1 (j - off) x0 _ e1.symm (by simp))⟩
                              · rw [j4 j (by omega)] at hj
                                obtain ⟨⟨v', hv', hr'⟩, _⟩ := hxx k j row x0 hrow hj
                                exact ⟨v', by rw [q6 _ (by rw [hlen]; omega)]; exact hv', mono hr'⟩
                            · rw [List.getElem?_set_ne (Ne.symm hki)] at hk
                              obtain ⟨⟨v', hv', hr'⟩, _⟩ := hxx k j row0 x0 hk hj
                              refine ⟨v', ?_, mono hr'⟩
                              rw [q6 _ ?_]
                              · exact hv'
                              · have hj0 : j < esz := by rw [hrl _ (mem_of_get hk)] at hjlt; exact hjlt
                                rw [hlen]
                                rcases Nat.lt_or_ge k i with hlt' | hge
                                · left
                                  have := idx_lt hlt' hj0
                                  omega
                                · right
                                  have := Nat.mul_le_mul_right esz (show i + 1 ≤ k by omega)
                                  rw [Nat.add_mul, Nat.one_mul] at this
                                  omega)
                      refine opOk_skip (e := ⟨undefV, y2.2 ++ [(b, .arr true esz (rows.set i row'))]⟩) (g' := g1) (hex (hz.trans hv) (run_storeVar (by rw [hs, ← hsz, l1]) hh' (by simp at hlen; omega) (fun k h1 h2 => hf k (by omega) (by simp at hlen; omega)) hone)) rfl ?_ ?_
                      · rw [upd_app]; exact i2
                      · rw [upd_app]; exact t1.trans t2
                · cases h4
              · cases h4
            · cases h''
          · cases h''
        · cases h''
      · cases h''
    · cases h''
  · cases hc

end
end Go.Am
