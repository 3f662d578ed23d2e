/-
  The abstract machine: its operations are the model's (composites, new slices, append).
-/
import Derived.Test.YteiakclfpfmigaaAmOps7
set_option linter.unusedSimpArgs false
set_option linter.unusedVariables false
namespace Go.Am

theorem setMany_get (vs : List Value) : ∀ (k : Nat) (off : Nat) (cs : Array Value), off + k + vs.length ≤ cs.size →
    let r := (vs.zipIdx k).foldl (fun cs (x : Value × Nat) => cs.setIfInBounds (off + x.2) x.1) cs
    r.size = cs.size ∧ (∀ (j : Nat) v, vs[j]? = some v → r[off + k + j]? = some v) ∧ ∀ i, (i < off + k ∨ off + k + vs.length ≤ i) → r[i]? = cs[i]? := by
  induction vs with
  | nil => intro k off cs _; exact ⟨rfl, fun j v h => by simp at h, fun _ _ => rfl⟩
  | cons v vs ih =>
    intro k off cs h
    simp only [List.length_cons] at h
    have := ih (k + 1) off (cs.setIfInBounds (off + k) v) (by simp; omega)
    simp only [List.zipIdx_cons, List.foldl_cons]
    obtain ⟨h1, h2, h3⟩ := this
    refine ⟨by rw [h1]; simp, fun j u hj => ?_, fun i hi => ?_⟩
    · cases j with
      | zero =>
        simp at hj; subst hj
        rw [h3 _ (.inl (by omega))]
        have : off + k < cs.size := by omega
        simp [this]
      | succ j => rw [← h2 j u (by simpa using hj)]; congr 1; omega
    · rw [h3 i (by simp at hi; omega), Array.getElem?_setIfInBounds, if_neg (by simp at hi; omega)]

section
variable {P : Program} {F : Orc} {s : Sn} {a : Act} {env : List (Nat × AV)} {o : Oper} {new : Nat} {e : Eff}

/-- Parts laid into cells: the model's fill. -/
theorem fill_step {place : Nat → Option (Nat × Nat)} {cells : Array Value} {i : Nat} {v : Value} {rest : List (Nat × Value)} {off size : Nat} (hp : place i = some (off, size)) (hs : v.cells.size = size) (hl : off + size ≤ cells.size) :
    ∃ cells' : Array Value, Instr.fill place cells ((i, v) :: rest) = Instr.fill place cells' rest ∧ cells'.size = cells.size ∧ (∀ (j : Nat) u, v.cells[j]? = some u → cells'[off + j]? = some u) ∧
      ∀ k, (k < off ∨ off + size ≤ k) → cells'[k]? = cells[k]? := by
  subst hs
  obtain ⟨h1, h2, h3⟩ := setMany_get v.cells.toList 0 off cells (by simp; omega)
  refine ⟨v.cells.zipIdx.foldl (fun cs (c, j) => cs.setIfInBounds (off + j) c) cells, ?_, ?_, ?_, ?_⟩
  · simp only [Instr.fill, hp]
    rw [if_neg]
    simp; omega
  all_goals (have hz : v.cells.zipIdx.foldl (fun cs (x : Value × Nat) => cs.setIfInBounds (off + x.2) x.1) cells = (v.cells.toList.zipIdx 0).foldl (fun cs (x : Value × Nat) => cs.setIfInBounds (off + x.2) x.1) cells := by
               rw [← Array.foldl_toList]; simp)
  · rw [hz, h1]
  · intro j u hj; rw [hz]; have := h2 j u (by simpa using hj); simpa using this
  · intro k hk; rw [hz]; exact h3 k (by simpa using hk)

theorem fill_rel {place : Nat → Option (Nat × Nat)} : ∀ {parts : List (Nat × Nat × List AV)} {ps : List (Nat × Value)} {cs cs' : List AV} {cells : Array Value},
    fillAll parts cs = some cs' → parts.length = ps.length →
    (∀ (k : Nat) off size l i v, parts[k]? = some (off, size, l) → ps[k]? = some (i, v) → place i = some (off, size) ∧ l.length = v.cells.size ∧ (∀ u ∈ v.cells.toList, u.oneCell' = true) ∧
      ∀ (j : Nat) y u, l[j]? = some y → v.cells[j]? = some u → RelA s y u) →
    cs.length = cells.size → (∀ (i : Nat) x, cs[i]? = some x → ∃ u, cells[i]? = some u ∧ RelA s x u ∧ u.oneCell' = true) →
    ∃ cells', Instr.fill place cells ps = some cells' ∧ cs'.length = cells'.size ∧ ∀ (i : Nat) x, cs'[i]? = some x → ∃ u, cells'[i]? = some u ∧ RelA s x u ∧ u.oneCell' = true
  | [], [], cs, cs', cells, h, _, _, hl, hr => by
    simp [fillAll] at h; subst h
    exact ⟨cells, rfl, hl, hr⟩
  | [], _ :: _, _, _, _, _, hl, _, _, _ => by simp at hl
  | _ :: _, [], _, _, _, _, hl, _, _, _ => by simp at hl
  | (off, size, l) :: parts, (i, v) :: ps, cs, cs', cells, h, hlen, hp, hl, hr => by
    unfold fillAll at h
    split at h
    · rename_i hsz
      split at h
      · rename_i cs1 hcs1
        obtain ⟨p1, p2, p3, p4⟩ := hp 0 off size l i v rfl rfl
        obtain ⟨j1, j2, j3, j4⟩ := spl_get hcs1
        obtain ⟨cells1, f1, f2, f3, f4⟩ := fill_step (v := v) (rest := ps) (cells := cells) p1 (by omega) (by omega)
        obtain ⟨cells', g1, g2, g3⟩ := fill_rel (cells := cells1) h (by simpa using hlen) (fun k off size l i v h1 h2 => hp (k + 1) off size l i v (by simpa using h1) (by simpa using h2)) (by omega) (fun k x hk => by
          by_cases hin : off ≤ k ∧ k < off + l.length
          · have e1 := j3 (k - off) (by omega)
            rw [show off + (k - off) = k by omega, hk] at e1
            have hlt : k - off < v.cells.size := by omega
            have e2 := f3 (k - off) v.cells[k - off] (by simp)
            exact ⟨v.cells[k - off], by rw [← e2]; congr 1; omega, p4 (k - off) x _ e1.symm (by simp), p3 _ (by simp)⟩
          · rw [j4 k (by omega)] at hk
            obtain ⟨u, hu, hr', h1⟩ := hr k x hk
            exact ⟨u, by rw [f4 k (by omega)]; exact hu, hr', h1⟩)
        exact ⟨cells', by rw [f1]; exact g1, g2, g3⟩
      · cases h
    · cases h

theorem partsR_rel (he : EnvRel s a.tmps env) {place : Nat → Option (Nat × Nat)} : ∀ {parts : List (Nat × Nat × Opd)} {ps : List (Nat × Operand)} {l : List (Nat × Nat × List AV)},
    (partsR parts).run ⟨env, s.σ⟩ = some l → chkParts place parts ps = true →
    l.length = (ps.map fun x => (x.1, a.eval x.2)).length ∧
    ∀ (k : Nat) off size cs i v, l[k]? = some (off, size, cs) → (ps.map fun x => (x.1, a.eval x.2))[k]? = some (i, v) → place i = some (off, size) ∧ cs.length = v.cells.size ∧ (∀ u ∈ v.cells.toList, u.oneCell' = true) ∧
      ∀ (j : Nat) y u, cs[j]? = some y → v.cells[j]? = some u → RelA s y u
  | [], [], l, h, _ => by
    simp only [partsR, RM.run] at h; injection h with h; subst h
    exact ⟨rfl, fun k off size cs i v h => by simp at h⟩
  | [], _ :: _, _, _, hc => by simp [chkParts] at hc
  | _ :: _, [], _, _, hc => by simp [chkParts] at hc
  | (off, size, x) :: parts, (i, y) :: ps, l, h, hc => by
    simp only [chkParts, Bool.and_eq_true, beq_iff_eq] at hc
    obtain ⟨⟨hp, hx⟩, hc⟩ := hc
    simp only [partsR] at h
    obtain ⟨v, h1, h⟩ := bind_some h
    split at h
    · rename_i cs hcs
      obtain ⟨l', h2, h⟩ := bind_some h
      simp only [RM.run] at h; injection h with h; subst h
      obtain ⟨k1, k2⟩ := partsR_rel he h2 hc
      obtain ⟨q1, q2, q3⟩ := cellsOf_rel hcs (ev_rel he h1 hx)
      refine ⟨by simpa using k1, fun k off' size' cs' i' v' h3 h4 => ?_⟩
      cases k with
      | zero =>
        simp at h3 h4
        obtain ⟨rfl, rfl, rfl⟩ := h3
        obtain ⟨rfl, rfl⟩ := h4
        exact ⟨hp, q1, q2, q3⟩
      | succ k => exact k2 k off' size' cs' i' v' (by simpa using h3) (by simpa using h4)
    · cases h

theorem run_places : ∀ {fs : List Field}, (∀ f ∈ fs, (szT P f.type).isSome = true) → ∀ w : World,
    (fs.mapM fun f => do pure (f.offset, ← sizeOf f.type) : Sem (List (Nat × Nat))).run P w = .ok (fs.map fun f => (f.offset, (szT P f.type).getD 0)) w
  | [], _, w => by simp
  | f :: fs, h, w => by
    have hs : (szT P f.type) = some ((szT P f.type).getD 0) := by
      have := h f (by simp)
      cases hq : szT P f.type <;> simp [hq] at this ⊢
    have ih := run_places (fs := fs) (fun g hg => h g (by simp [hg])) w
    rw [List.mapM_cons]
    simp only [Sem.run_bind, run_size hs, Result.andThen_ok, Sem.run_pure, ih]
    simp

theorem ok_build (hi : Inv s) (he : EnvRel s a.tmps env) {zero parts} (h : (opR F (.build zero parts) new).run ⟨env, s.σ⟩ = some e) (hc : chkOp P (.build zero parts) o.op = true) : OpOk P o a s e := by
  simp only [opR] at h
  obtain ⟨l, h1, h'⟩ := bind_some h
  clear h
  unfold chkOp at hc
  simp only at hc
  split at hc
  · rename_i t ps hop
    simp only [Bool.and_eq_true] at hc
    obtain ⟨hz, ht⟩ := hc
    obtain ⟨z, hz1, hz2, hz3⟩ := zeOk_cells hz
    split at h'
    · rename_i cs hcs
      obtain ⟨r, h3, rfl⟩ := val_some h'
      have hzero : ∀ (i : Nat) x, (zero.map AV.p)[i]? = some x → ∃ u, z.cells[i]? = some u ∧ RelA s x u ∧ u.oneCell' = true := by
        intro i x hx
        rw [List.getElem?_map] at hx
        cases hzi : zero[i]? with
        | none => simp [hzi] at hx
        | some c =>
          simp [hzi] at hx; subst hx
          have hlt := lt_of_get hzi
          have hlt' : i < z.cells.size := by omega
          have := hz3 (w := s.w) (C := s.g.C) i c z.cells[i] hzi (by simp)
          exact ⟨z.cells[i], by simp, .p _ _ this, this.one⟩
      have fin : ∀ {place : Nat → Option (Nat × Nat)}, chkParts place parts ps.toList = true →
          ∃ cells', Instr.fill place z.cells (ps.toList.map fun x => (x.1, a.eval x.2)) = some cells' ∧ RelA s r (.agg cells') := by
        intro place hch
        obtain ⟨k1, k2⟩ := partsR_rel he h1 hch
        obtain ⟨cells', f1, f2, f3⟩ := fill_rel (s := s) (cells := z.cells) hcs k1 k2 (by simp [hz2]) hzero
        refine ⟨cells', f1, ?_⟩
        have := of_rel (s := s) (vs := cells'.toList) h3 (by simpa using f2) (fun v hv => by
            obtain ⟨i, hi'⟩ := List.getElem?_of_mem hv
            have hi' : cells'[i]? = some v := by simpa using hi'
            have hlt := lt_of_getA hi'
            obtain ⟨u, hu, _, h1⟩ := f3 i cs[i] (by rw [List.getElem?_eq_getElem])
            rw [hi'] at hu; injection hu with hu; subst hu; exact h1)
          (fun i y v hy hv => by
            obtain ⟨u, hu, hr, _⟩ := f3 i y hy
            have hv : cells'[i]? = some v := by simpa using hv
            rw [hv] at hu; injection hu with hu; subst hu; exact hr)
        rcases this with ⟨_, hr⟩ | ⟨hf, _⟩
        · simpa using hr
        · cases hf
      have hps : (ps.map fun x => (x.1, a.eval x.2)).toList = ps.toList.map fun x => (x.1, a.eval x.2) := by simp
      split at ht
      · rename_i fs hu
        simp only [Bool.and_eq_true] at ht
        obtain ⟨hall, hch⟩ := ht
        obtain ⟨cells', f1, hr⟩ := fin hch
        have hpl : (fun i => (fs.map fun f => (f.offset, (szT P f.type).getD 0))[i]?) = fieldPl P fs := by
          funext i
          simp only [fieldPl, Array.getElem?_map]
          cases hfi : fs[i]? with
          | none => rfl
          | some f =>
            have := Array.all_eq_true_iff_forall_mem.1 hall f (Array.mem_of_getElem? hfi)
            cases hq : szT P f.type <;> simp [hq] at this ⊢
        refine opOk_pure hi (v := .agg cells') ?_ hr
        have hmap : (fs.mapM fun f => do pure (f.offset, ← sizeOf f.type) : Sem (Array (Nat × Nat))).run P s.w = .ok (fs.map fun f => (f.offset, (szT P f.type).getD 0)) s.w := by
          rw [Array.mapM_eq_mapM_toList]
          simp only [Sem.run_map, run_places (P := P) (fs := fs.toList) (fun f hf => Array.all_eq_true_iff_forall_mem.1 hall f (by simpa using hf)), Result.andThen_ok]
          congr 1
          apply Array.ext'; simp
        have hf : Instr.fill (fun i => (fs.map fun f => (f.offset, (szT P f.type).getD 0))[i]?) z.cells (ps.map fun x => (x.1, a.eval x.2)).toList = some cells' := by
          rw [hpl, hps]; exact f1
        have hb : (Instr.build t (ps.map fun x => (x.1, a.eval x.2))).run P s.w = .ok (.agg cells') s.w := by
          unfold Instr.build
          simp only [Sem.run_bind, run_zero hz1, Result.andThen_ok, run_underlying hu, hmap, hf]
          rfl
        simp only [execOp, hop, Sem.run_bind, hb, Result.andThen_ok, Sem.run_pure]
      · rename_i n el hu
        split at ht
        · rename_i q hq
          obtain ⟨cells', f1, hr⟩ := fin ht
          refine opOk_pure hi (v := .agg cells') ?_ hr
          have hb : (Instr.build t (ps.map fun x => (x.1, a.eval x.2))).run P s.w = .ok (.agg cells') s.w := by
            unfold Instr.build
            simp only [Sem.run_bind, run_zero hz1, Result.andThen_ok, run_underlying hu, run_size hq, hps, f1]
            rfl
          simp only [execOp, hop, Sem.run_bind, hb, Result.andThen_ok, Sem.run_pure]
        · cases ht
      · cases ht
    · cases h'
  · cases hc

theorem ok_alen (hi : Inv s) {n} (h : (opR F (.alen n) new).run ⟨env, s.σ⟩ = some e) (hc : chkOp P (.alen n) o.op = true) : OpOk P o a s e := by
  simp only [opR, RM.run] at h
  injection h with h; subst h
  unfold chkOp at hc
  simp only at hc
  split at hc
  · rename_i c hop
    split at hc
    · rename_i hcal
      split at hc
      · rename_i y t hargs htys
        have hm : c.args.map a.eval = #[a.eval y] := by apply Array.ext'; simp [hargs]
        have ht0 : c.argTypes[0]? = some t := by rw [← Array.getElem?_toList, htys]; rfl
        split at hc
        · rename_i m el hu
          have : m = n := by simpa using hc
          subst this
          exact opOk_pure hi (v := .int .i64 m) (by simp [execOp, hop, resolve, hcal, hm, invoke, builtin, Builtin.len_, ht0, run_underlying hu, goInt]) (relA_i' _ _)
        · rename_i ar hu
          split at hc
          · rename_i m el har
            have : m = n := by simpa using hc
            subst this
            exact opOk_pure hi (v := .int .i64 m) (by simp [execOp, hop, resolve, hcal, hm, invoke, builtin, Builtin.len_, ht0, run_underlying hu, run_underlying (arT_some har), goInt]) (relA_i' _ _)
          · cases hc
        · cases hc
      · cases hc
    · cases hc
  · cases hc

end
end Go.Am
