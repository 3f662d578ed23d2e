/-
  The abstract machine: its operations are the model's (new slices, append).
-/
import Derived.Test.YteiakclfpfmigaaAmOps8
set_option linter.unusedSimpArgs false
set_option linter.unusedVariables false
namespace Go.Am

/-- Rows in a row of cells. -/
def Rowed (s : Sn) (esz : Nat) (rows : List (List PV)) (c : Array Value) : Prop :=
  (∀ row ∈ rows, row.length = esz) ∧ rows.length * esz ≤ c.size ∧
    ∀ (i j : Nat) row x, rows[i]? = some row → row[j]? = some x → ∃ u, c[i * esz + j]? = some u ∧ RelP s.w s.g.C x u

section
variable {P : Program} {F : Orc} {s : Sn} {a : Act} {env : List (Nat × AV)} {o : Oper} {new : Nat} {e : Eff}

theorem Rowed.mono {s0 s : Sn} (hi : Inv s0) (t : Trans s0 s) {esz rows c} (h : Rowed s0 esz rows c) : Rowed s esz rows c :=
  ⟨h.1, h.2.1, fun i j row x hr hx => let ⟨u, h1, h2⟩ := h.2.2 i j row x hr hx; ⟨u, h1, h2.mono hi t⟩⟩

/-- New memory with rows in it: an own array, or a constant slice. -/
theorem new_rows {s0 : Sn} (hi : Inv s0) (hn : s0.σ[new]? = some .dead) {esz : Nat} {rows : List (List PV)} {c : Array Value} {et : TypeId} {fz : Nat × Nat} {w' : World} {cap : Nat}
    (hh : w'.heap = s0.w.heap.push (.cells c et fz)) (ho : w'.os = s0.w.os) (hp : w'.output = s0.w.output) (hf : Free fz 0 c.size) (hr : Rowed s0 esz rows c) (hcap : rows.length ≤ cap) (hsz : cap * esz ≤ c.size) :
    (∃ g', Inv ⟨s0.σ.set new (.arr true esz rows), g', w'⟩ ∧ Trans s0 ⟨s0.σ.set new (.arr true esz rows), g', w'⟩ ∧
      RelA ⟨s0.σ.set new (.arr true esz rows), g', w'⟩ (.slr new 0 rows.length) (.slice (some ⟨s0.w.heap.size, 0, none⟩) rows.length cap)) := by
  obtain ⟨i', t'⟩ := own_new hi hn (blk := .arr true esz rows) hh ho hp hf hr
  refine ⟨_, i', t', .slr new 0 _ _ true esz rows ⟨_, _, rfl, .inr (by simp)⟩ (get_set_self hn) (by omega) fun _ => .inr ⟨s0.w.heap.size, cap, c, et, fz, if_pos rfl, by simp, hcap, push_last hh, by simpa using hsz⟩⟩

theorem new_const {s0 : Sn} (hi : Inv s0) {esz : Nat} {rows : List (List PV)} {c : Array Value} {et : TypeId} {fz : Nat × Nat} {w' : World} {cap : Nat}
    (hh : w'.heap = s0.w.heap.push (.cells c et fz)) (ho : w'.os = s0.w.os) (hp : w'.output = s0.w.output) (hr : Rowed s0 esz rows c) (hcap : rows.length ≤ cap) :
    (∃ g', Inv ⟨s0.σ, g', w'⟩ ∧ Trans s0 ⟨s0.σ, g', w'⟩ ∧ RelA ⟨s0.σ, g', w'⟩ (.p (.sl esz rows)) (.slice (some ⟨s0.w.heap.size, 0, none⟩) rows.length cap)) := by
  obtain ⟨i', t'⟩ := const_new hi hh ho hp
  refine ⟨_, i', t', .p _ _ (sl_of_const (s := ⟨s0.σ, _, w'⟩) rfl hcap hr.1 (.inr ⟨_, 0, rfl, fun i j row x hi' hj => ⟨.inr rfl, ?_⟩⟩))⟩
  obtain ⟨u, hu, hrel⟩ := hr.2.2 i j row x hi' hj
  exact ⟨u, by rw [cellAt_of (push_last hh), Nat.zero_add]; exact hu, hrel.mono hi t'⟩

theorem fzs_rel {σ0 : List Blk} {tmps : Array Value} (he : ∀ n x, lk n env = some x → ∃ v, a.tmps[n]? = some v) : ∀ {xs : List Opd} {ys : List Operand} {s : Sn} {y : List (List PV) × List (Nat × Blk)}, Inv s → Frz σ0 s.σ → EnvRel s a.tmps env →
    (fzs xs).run ⟨env, σ0⟩ = some y → chkOs xs ys = true →
    ∃ g', Inv ⟨upd y.2 s.σ, g', s.w⟩ ∧ Trans s ⟨upd y.2 s.σ, g', s.w⟩ ∧ Frz s.σ (upd y.2 s.σ) ∧ y.1.length = ys.length ∧
      ∀ (k : Nat) cs q, y.1[k]? = some cs → ys[k]? = some q → cs.length = (a.eval q).cells.size ∧ ∀ (i : Nat) c u, cs[i]? = some c → (a.eval q).cells[i]? = some u → RelP s.w g'.C c u
  | [], [], s, y, hi, hF, hE, h, _ => by
    simp only [fzs, RM.run] at h; injection h with h; subst h
    exact ⟨s.g, hi, .refl s, .refl _, rfl, fun k cs q h => by simp at h⟩
  | [], _ :: _, _, _, _, _, _, _, hc => by simp [chkOs] at hc
  | _ :: _, [], _, _, _, _, _, _, hc => by simp [chkOs] at hc
  | x :: xs, q :: ys, s, y, hi, hF, hE, h, hc => by
    simp only [chkOs, Bool.and_eq_true] at hc
    simp only [fzs] at h
    obtain ⟨v, h1, h⟩ := bind_some h
    obtain ⟨y1, h2, h⟩ := bind_some h
    obtain ⟨y2, h3, h⟩ := bind_some h
    simp only [RM.run] at h; injection h with h; subst h
    have h1' : (ev x).run ⟨env, s.σ⟩ = some v := by
      cases x with
      | t n => simpa only [ev, RM.run] using h1
      | c z => simpa only [ev, RM.run] using h1
    have hr := ev_rel hE h1' hc.1
    obtain ⟨g1, i1, t1, f1, l1, r1⟩ := fz_rel hi hF h2 hr
    obtain ⟨g2, i2, t2, f2, l2, r2⟩ := fzs_rel (tmps := tmps) he (s := ⟨upd y1.2 s.σ, g1, s.w⟩) i1 (hF.trans f1) (hE.mono hi t1) h3 hc.2
    refine ⟨g2, by rw [upd_app]; exact i2, by rw [upd_app]; exact t1.trans t2, by rw [upd_app]; exact f1.trans f2, by simp [l2], fun k cs q' hk hq => ?_⟩
    cases k with
    | zero =>
      simp at hk hq; subst hk hq
      exact ⟨l1, fun i c u hc hu => RelP.mono (s0 := ⟨upd y1.2 s.σ, g1, s.w⟩) (s := ⟨upd y2.2 (upd y1.2 s.σ), g2, s.w⟩) i1 t2 (r1 i c u hc hu)⟩
    | succ k => exact r2 k cs q' (by simpa using hk) (by simpa using hq)

theorem place_rel {esz : Nat} (hpos : 0 < esz) : ∀ {parts : List (Nat × List PV)} {ps : List (Nat × Value)} {rows rows' : List (List PV)} {cells : Array Value},
    placeAll esz parts rows = some rows' → parts.length = ps.length →
    (∀ (k : Nat) i cs j v, parts[k]? = some (i, cs) → ps[k]? = some (j, v) → i = j ∧ cs.length = v.cells.size ∧ ∀ (m : Nat) c u, cs[m]? = some c → v.cells[m]? = some u → RelP s.w s.g.C c u) →
    Rowed s esz rows cells → cells.size = rows.length * esz →
    ∃ cells', Instr.fill (fun i => some (i * esz, esz)) cells ps = some cells' ∧ Rowed s esz rows' cells' ∧ rows'.length = rows.length ∧ cells'.size = rows.length * esz
  | [], [], rows, rows', cells, h, _, _, hr, hs => by
    simp [placeAll] at h; subst h
    exact ⟨cells, rfl, hr, rfl, hs⟩
  | [], _ :: _, _, _, _, _, hl, _, _, _ => by simp at hl
  | _ :: _, [], _, _, _, _, hl, _, _, _ => by simp at hl
  | (i, cs) :: parts, (j, v) :: ps, rows, rows', cells, h, hlen, hp, hr, hs => by
    unfold placeAll at h
    split at h
    · rename_i hc
      obtain ⟨rfl, p2, p3⟩ := hp 0 i cs j v rfl rfl
      have hbnd : i * esz + esz ≤ rows.length * esz := by
        have := Nat.mul_le_mul_right esz (show i + 1 ≤ rows.length from hc.2)
        rwa [Nat.add_mul, Nat.one_mul] at this
      obtain ⟨cells1, f1, f2, f3, f4⟩ := fill_step (place := fun i => some (i * esz, esz)) (v := v) (rest := ps) (cells := cells) (i := i) rfl (by omega) (by omega)
      obtain ⟨q1, q2, q3⟩ := hr
      obtain ⟨cells', g1, g2, g3, g4⟩ := place_rel hpos (cells := cells1) h (by simpa using hlen) (fun k i cs j v h1 h2 => hp (k + 1) i cs j v (by simpa using h1) (by simpa using h2))
        ⟨fun row hm => by
            rcases List.mem_or_eq_of_mem_set hm with hm | hm
            · exact q1 row hm
            · subst hm; exact hc.1, by simp; omega, fun k m row x hk hx => by
            by_cases hki : k = i
            · subst hki
              rw [List.getElem?_set_self hc.2] at hk
              injection hk with hk; subst hk
              have hlt := lt_of_get hx
              have hlt' : m < v.cells.size := by omega
              exact ⟨v.cells[m], f3 m _ (by simp), p3 m x _ hx (by simp)⟩
            · rw [List.getElem?_set_ne (Ne.symm hki)] at hk
              obtain ⟨u, hu, hrel⟩ := q3 k m row x hk hx
              refine ⟨u, ?_, hrel⟩
              rw [f4 _ ?_]
              · exact hu
              · have hm0 := lt_of_get hx
                rw [q1 row (mem_of_get hk)] at hm0
                rcases Nat.lt_or_ge k i with hlt' | hge
                · left
                  have := idx_lt hlt' hm0
                  omega
                · right
                  have := Nat.mul_le_mul_right esz (show i + 1 ≤ k by omega)
                  rw [Nat.add_mul, Nat.one_mul] at this
                  omega⟩ (by simp; omega)
      exact ⟨cells', by rw [f1]; exact g1, g2, by simpa using g3, by simpa using g4⟩
    · cases h

theorem info_of {t : TypeId} {n : Nat} (h : szT P t = some n) : ∃ i, P.info? t = some i ∧ i.size = n := by
  unfold szT at h
  cases hi : P.info? t with
  | none => rw [hi] at h; cases h
  | some i => rw [hi] at h; simp at h; exact ⟨i, rfl, h⟩

theorem zero_of {t : TypeId} {v : Value} {i : TypeInfo} (h : zeT P t = some v) (hi : P.info? t = some i) : i.zero = some v := by
  unfold zeT at h; rw [hi] at h; simpa using h

theorem bytes_of {t : TypeId} {n : Nat} {i : TypeInfo} (h : byT P t = some n) (hi : P.info? t = some i) : i.bytes = n := by
  unfold byT at h; rw [hi] at h; simpa using h

theorem made_get {z : Array Value} {esz n i j : Nat} (hz : z.size = esz) (hi : i < n) (hj : j < esz) : (madeCells z (n * esz))[i * esz + j]? = z[j]? := by
  have h1 : i * esz + j < n * esz := idx_lt hi hj
  have h2 : (i * esz + j) % z.size = j := by
    rw [hz, Nat.add_comm, Nat.add_mul_mod_self_right, Nat.mod_eq_of_lt hj]
  have h3 : j < z.size := by omega
  simp [madeCells, h1, h2, h3]

theorem made_rowed {zero : List PV} {z : Value} {esz n m : Nat} (hl : zero.length = esz) (hz2 : zero.length = z.cells.size)
    (hz3 : ∀ {w C} (i : Nat) x u, zero[i]? = some x → z.cells[i]? = some u → RelP w C x u) (hnm : n ≤ m) : Rowed s esz (List.replicate n zero) (madeCells z.cells (m * esz)) := by
  refine ⟨fun row hr => by rw [List.eq_of_mem_replicate hr]; exact hl, ?_, fun i j row x hi hj => ?_⟩
  · rw [size_madeCells, List.length_replicate]; exact Nat.mul_le_mul_right esz hnm
  · have hlt := lt_of_get hi
    have := List.eq_of_mem_replicate (mem_of_get hi)
    subst this
    have hj' := lt_of_get hj
    simp at hlt
    have hz : z.cells.size = esz := by omega
    refine ⟨z.cells[j], ?_, hz3 j x _ hj (by simp)⟩
    rw [made_get hz (by omega) (by omega)]
    simp

theorem ok_mkslice (hi : Inv s) (he : EnvRel s a.tmps env) {own esz bytes zero l c} (hn : own = true → s.σ[new]? = some .dead) (h : (opR F (.mkslice own esz bytes zero l c) new).run ⟨env, s.σ⟩ = some e)
    (hc : chkOp P (.mkslice own esz bytes zero l c) o.op = true) : OpOk P o a s e := by
  simp only [opR] at h
  obtain ⟨u, h1, h'⟩ := bind_some h
  obtain ⟨v, h2, h''⟩ := bind_some h'
  clear h h'
  unfold chkOp at hc
  simp only at hc
  split at hc
  · rename_i t l' c' hop
    simp only [Bool.and_eq_true] at hc
    obtain ⟨⟨hl, hcc⟩, ht⟩ := hc
    have rl := ev_rel he h1 hl
    have rc := ev_rel he h2 hcc
    split at ht
    · rename_i el hel
      simp only [Bool.and_eq_true, beq_iff_eq, decide_eq_true_eq] at ht
      obtain ⟨⟨⟨⟨⟨hs, hby⟩, hz⟩, hzl⟩, hpos⟩, hbpos⟩ := ht
      obtain ⟨i, hinf, hsz⟩ := info_of hs
      obtain ⟨z, hz1, hz2, hz3⟩ := zeOk_cells hz
      have hbytes := bytes_of hby hinf
      split at h''
      · rename_i k n k' m
        split at h''
        · rename_i hcond
          obtain ⟨hn0, hnm, hb, hm⟩ := hcond
          have e1 := relA_i rl
          have e2 := relA_i rc
          have hrun := run_make (P := P) s.w t el i z (elT_some hel) hinf (zero_of hz1 hinf) k k' n m hn0 hnm (by rw [hbytes]; exact hb) (by omega)
          rw [hsz] at hrun
          have hrow : Rowed s esz (List.replicate n.toNat zero) (madeCells z.cells (m.toNat * esz)) := made_rowed hzl hz2 hz3 (by omega)
          have hex : (execOp a.eval o).run P s.w = .ok (.value (.slice (some ⟨s.w.heap.size, 0, none⟩) n.toNat m.toNat)) (s.w.alloc (.cells (madeCells z.cells (m.toNat * esz)) el)) := by
            simp [execOp, hop, e1, e2, hrun]
          split at h''
          · rename_i hown
            simp only [RM.run] at h''; injection h'' with h''; subst h''
            obtain ⟨g', i', t', r'⟩ := new_rows hi (hn hown) (w' := s.w.alloc (.cells (madeCells z.cells (m.toNat * esz)) el)) (fz := (0, 0)) rfl rfl rfl (fun o _ _ h => by simp at h) hrow (cap := m.toNat) (by simp; omega) (by rw [size_madeCells]; exact Nat.le_refl _)
            simp only [List.length_replicate] at r'
            exact opOk_val hex i' t' r'
          · simp only [RM.run] at h''; injection h'' with h''; subst h''
            obtain ⟨g', i', t', r'⟩ := new_const hi (w' := s.w.alloc (.cells (madeCells z.cells (m.toNat * esz)) el)) (fz := (0, 0)) rfl rfl rfl hrow (cap := m.toNat) (by simp; omega)
            simp only [List.length_replicate] at r'
            exact opOk_val (e := ⟨_, []⟩) hex i' t' r'
        · cases h''
      · cases h''
    · cases ht
  · cases hc

theorem ok_lits (hi : Inv s) (he : EnvRel s a.tmps env) {own esz n zero parts} (hn : own = true → s.σ[new]? = some .dead) (h : (opR F (.lits own esz n zero parts) new).run ⟨env, s.σ⟩ = some e)
    (hc : chkOp P (.lits own esz n zero parts) o.op = true) : OpOk P o a s e := by
  simp only [opR] at h
  obtain ⟨y, h1, h'⟩ := bind_some h
  clear h
  unfold chkOp at hc
  simp only at hc
  split at hc
  · rename_i t len ps hop
    simp only [Bool.and_eq_true, beq_iff_eq] at hc
    obtain ⟨rfl, ht⟩ := hc
    split at ht
    · rename_i el hel
      simp only [Bool.and_eq_true, beq_iff_eq, decide_eq_true_eq] at ht
      obtain ⟨⟨⟨⟨⟨hs, hle⟩, hz⟩, hzl⟩, hpos⟩, hidx⟩ := ht
      obtain ⟨z, hz1, hz2, hz3⟩ := zeOk_cells hz
      have hidx' : chkOs (parts.map (·.2)) (ps.toList.map (·.2)) = true ∧ parts.map (·.1) = ps.toList.map (·.1) := by
        have : ∀ {p : List (Nat × Opd)} {q : List (Nat × Operand)}, chkIdx p q = true → chkOs (p.map (·.2)) (q.map (·.2)) = true ∧ p.map (·.1) = q.map (·.1) := by
          intro p
          induction p with
          | nil => intro q h; cases q <;> simp [chkIdx] at h ⊢; rfl
          | cons x p ih =>
            intro q h
            cases q with
            | nil => simp [chkIdx] at h
            | cons y q =>
              obtain ⟨xi, xo⟩ := x
              obtain ⟨yi, yo⟩ := y
              simp only [chkIdx, Bool.and_eq_true, beq_iff_eq] at h
              obtain ⟨h3, h4⟩ := ih h.2
              exact ⟨by simp [chkOs, h.1.2, h3], by simp [h.1.1, h4]⟩
        exact this hidx
      obtain ⟨g1, i1, t1, f1, l1, r1⟩ := fzs_rel (tmps := a.tmps) (fun n x hx => let ⟨v, h, _⟩ := he n x hx; ⟨v, h⟩) hi (.refl _) he h1 hidx'.1
      split at h'
      · rename_i rows hrows
        have hplen : (parts.map (·.1)).length = (ps.toList.map (·.1)).length := by rw [hidx'.2]
        simp at hplen
        simp at l1
        have hzip : ((parts.map (·.1)).zip y.1).length = (ps.toList.map fun x => (x.1, a.eval x.2)).length := by simp; omega
        obtain ⟨cells', f2, r2, len2, sz2⟩ := place_rel (s := ⟨upd y.2 s.σ, g1, s.w⟩) hpos (ps := ps.toList.map fun x => (x.1, a.eval x.2)) (cells := madeCells z.cells (len * esz)) hrows hzip (fun k i cs j v hk hq => by
            rw [List.getElem?_zip_eq_some] at hk
            obtain ⟨hk1, hk2⟩ := hk
            rw [List.getElem?_map] at hq
            cases hpk : ps.toList[k]? with
            | none => simp [hpk] at hq
            | some q =>
              simp [hpk] at hq
              obtain ⟨rfl, rfl⟩ := hq
              rw [hidx'.2, List.getElem?_map, hpk] at hk1
              simp at hk1
              obtain ⟨k3, k4⟩ := r1 k cs q.2 hk2 (by rw [List.getElem?_map, hpk]; rfl)
              exact ⟨hk1.symm, k3, k4⟩)
          (made_rowed hzl hz2 hz3 (Nat.le_refl _)) (by simp [size_madeCells])
        simp at len2 sz2
        have hex : (execOp a.eval o).run P s.w = .ok (.value (.slice (some ⟨s.w.heap.size, 0, none⟩) len len)) (s.w.alloc (.cells cells' el)) := by
          have hle' : ¬ (len * esz > 2 ^ 24) := by omega
          have hps : (ps.map fun (x : Nat × Operand) => (x.1, a.eval x.2)).toList = ps.toList.map fun x => (x.1, a.eval x.2) := by simp
          have hb : (Instr.buildSlice t len (ps.map fun (x : Nat × Operand) => (x.1, a.eval x.2))).run P s.w = .ok (.slice (some ⟨s.w.heap.size, 0, none⟩) len len) (s.w.alloc (.cells cells' el)) := by
            unfold Instr.buildSlice
            by_cases h0 : len * esz = 0
            · have hm0 : madeCells z.cells (len * esz) = #[] := by simp [madeCells, h0]
              rw [hm0] at f2
              have h00 : ¬ ((0 : Nat) > 2 ^ 24) := by decide
              have hr0 : Array.range 0 = #[] := rfl
              simp only [h00, Sem.run_bind, run_underlying (elT_some hel), Result.andThen_ok, run_size hs, hle', if_false, h0, if_true, Sem.run_pure, hps, hr0, Array.map_empty, f2, newRow, run_newObj]
              rfl
            · have hm0 : ((Array.range (len * esz)).map fun x => z.cells[x % z.cells.size]!) = madeCells z.cells (len * esz) := rfl
              simp only [Sem.run_bind, run_underlying (elT_some hel), Result.andThen_ok, run_size hs, hle', if_false, h0, run_zero hz1, Sem.run_pure, hps, hm0, f2, newRow, run_newObj]
              rfl
          simp only [execOp, hop, Sem.run_bind, hb, Result.andThen_ok, Sem.run_pure]
        split at h'
        · rename_i hown
          simp only [RM.run] at h'; injection h' with h'; subst h'
          have hd1 : (upd y.2 s.σ)[new]? = some .dead := f1.2 _ _ (hn hown) (by simp)
          obtain ⟨g', i', t', r'⟩ := new_rows (s0 := ⟨upd y.2 s.σ, g1, s.w⟩) i1 hd1 (w' := s.w.alloc (.cells cells' el)) (fz := (0, 0)) rfl rfl rfl (fun o _ _ h => by simp at h) r2 (cap := len) (by omega) (by omega)
          rw [len2] at r'
          refine opOk_val (e := ⟨_, y.2 ++ [(new, .arr true esz rows)]⟩) (g' := g') hex ?_ ?_ ?_
          · rw [upd_app]; exact i'
          · rw [upd_app]; exact t1.trans t'
          · rw [upd_app]; exact r'
        · simp only [RM.run] at h'; injection h' with h'; subst h'
          obtain ⟨g', i', t', r'⟩ := new_const (s0 := ⟨upd y.2 s.σ, g1, s.w⟩) i1 (w' := s.w.alloc (.cells cells' el)) (fz := (0, 0)) rfl rfl rfl r2 (cap := len) (by omega)
          rw [len2] at r'
          exact opOk_val (e := ⟨_, y.2⟩) hex i' (t1.trans t') r'
      · cases h'
    · cases ht
  · cases hc

end
end Go.Am
