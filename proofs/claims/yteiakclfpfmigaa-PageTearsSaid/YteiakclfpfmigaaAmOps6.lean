/-
  The abstract machine: its operations are the model's (slices, loads, values made plain).
-/
import Derived.Test.YteiakclfpfmigaaAmOps5
set_option linter.unusedSimpArgs false
set_option linter.unusedVariables false
namespace Go.Am

theorem upd_app (a b : List (Nat × Blk)) (σ : List Blk) : upd (a ++ b) σ = upd b (upd a σ) := by simp [upd, List.foldl_append]

section
variable {P : Program} {F : Orc} {s : Sn} {a : Act} {env : List (Nat × AV)} {o : Oper} {new : Nat} {e : Eff}

theorem fz_slr_rel {σ0 : List Blk} (hi : Inv s) (hF : Frz σ0 s.σ) {b i n : Nat} {y : List PV × List (Nat × Blk)} {v : Value} (h : (fz (.slr b i n)).run ⟨env, σ0⟩ = some y) (hr : RelA s (.slr b i n) v) :
    ∃ g', Inv ⟨upd y.2 s.σ, g', s.w⟩ ∧ Trans s ⟨upd y.2 s.σ, g', s.w⟩ ∧ Frz s.σ (upd y.2 s.σ) ∧ ∃ c, y.1 = [c] ∧ RelP s.w g'.C c v := by
  simp only [fz, RM.run] at h
  split at h
  · rename_i blk hb
    split at h
    · rename_i wm esz rows
      split at h
      · rename_i hc
        simp only [RM.run] at h; injection h with h; subst h
        obtain ⟨wm', hb'⟩ := hF.1 b _ _ _ hb
        obtain ⟨g', h1, h2, h3, h4⟩ := freeze_sl hi hr hb' hc
        exact ⟨g', h1, h2, h3, _, rfl, h4⟩
      · cases h
    · cases h
  · cases h

theorem fz1_rel {σ0 : List Blk} (hi : Inv s) (hF : Frz σ0 s.σ) {x : AV} {y : List PV × List (Nat × Blk)} {v : Value} (h : (fz.fz1 x).run ⟨env, σ0⟩ = some y) (hr : RelA s x v) :
    ∃ g', Inv ⟨upd y.2 s.σ, g', s.w⟩ ∧ Trans s ⟨upd y.2 s.σ, g', s.w⟩ ∧ Frz s.σ (upd y.2 s.σ) ∧ ∃ c, y.1 = [c] ∧ RelP s.w g'.C c v := by
  cases x with
  | p c =>
    simp only [fz.fz1, RM.run] at h; injection h with h; subst h
    cases hr with
    | p _ _ hr => exact ⟨s.g, hi, .refl s, .refl _, c, rfl, hr⟩
  | slr b i n => exact fz_slr_rel hi hF (by exact h) hr
  | _ => simp only [fz.fz1, RM.run] at h; cases h

theorem fzL_rel {σ0 : List Blk} : ∀ {xs : List AV} {s : Sn} {y : List PV × List (Nat × Blk)} {vs : List Value}, Inv s → Frz σ0 s.σ → (fz.fzL xs).run ⟨env, σ0⟩ = some y → xs.length = vs.length →
    (∀ (i : Nat) x v, xs[i]? = some x → vs[i]? = some v → RelA s x v) →
    ∃ g', Inv ⟨upd y.2 s.σ, g', s.w⟩ ∧ Trans s ⟨upd y.2 s.σ, g', s.w⟩ ∧ Frz s.σ (upd y.2 s.σ) ∧ y.1.length = vs.length ∧
      ∀ (i : Nat) c v, y.1[i]? = some c → vs[i]? = some v → RelP s.w g'.C c v
  | [], s, y, vs, hi, hF, h, hl, hr => by
    simp only [fz.fzL, RM.run] at h; injection h with h; subst h
    exact ⟨s.g, hi, .refl s, .refl _, by simpa using hl, fun i c v hc => by simp at hc⟩
  | x :: xs, s, y, [], hi, hF, h, hl, hr => by simp at hl
  | x :: xs, s, y, v :: vs, hi, hF, h, hl, hr => by
    simp only [fz.fzL] at h
    obtain ⟨y1, h1, h⟩ := bind_some h
    obtain ⟨y2, h2, h⟩ := bind_some h
    simp only [RM.run] at h; injection h with h; subst h
    obtain ⟨g1, i1, t1, f1, c, hc, rc⟩ := fz1_rel hi hF h1 (hr 0 x v rfl rfl)
    obtain ⟨g2, i2, t2, f2, l2, r2⟩ := fzL_rel (s := ⟨upd y1.2 s.σ, g1, s.w⟩) i1 (hF.trans f1) h2 (by simpa using hl) fun i x v hx hv => (hr (i + 1) x v (by simpa using hx) (by simpa using hv)).mono hi t1
    refine ⟨g2, by rw [upd_app]; exact i2, by rw [upd_app]; exact t1.trans t2, by rw [upd_app]; exact f1.trans f2, by simp [hc, l2], fun i c' v' hc' hv' => ?_⟩
    rw [hc] at hc'
    cases i with
    | zero =>
      simp at hc' hv'; subst hc' hv'
      exact RelP.mono (s0 := ⟨upd y1.2 s.σ, g1, s.w⟩) (s := ⟨upd y2.2 (upd y1.2 s.σ), g2, s.w⟩) i1 t2 rc
    | succ i => exact r2 i c' v' (by simpa using hc') (by simpa using hv')

/-- A value made plain. -/
theorem fz_rel {σ0 : List Blk} (hi : Inv s) (hF : Frz σ0 s.σ) {x : AV} {y : List PV × List (Nat × Blk)} {v : Value} (h : (fz x).run ⟨env, σ0⟩ = some y) (hr : RelA s x v) :
    ∃ g', Inv ⟨upd y.2 s.σ, g', s.w⟩ ∧ Trans s ⟨upd y.2 s.σ, g', s.w⟩ ∧ Frz s.σ (upd y.2 s.σ) ∧ y.1.length = v.cells.size ∧
      ∀ (i : Nat) c u, y.1[i]? = some c → v.cells[i]? = some u → RelP s.w g'.C c u := by
  cases x with
  | p c =>
    simp only [fz, RM.run] at h; injection h with h; subst h
    cases hr with
    | p _ _ hr =>
      refine ⟨s.g, hi, .refl s, .refl _, by rw [hr.cells1]; rfl, fun i c' u hc hu => ?_⟩
      rw [hr.cells1] at hu
      cases i with
      | zero => simp at hc hu; subst hc hu; exact hr
      | succ i => simp at hc
  | data cs =>
    simp only [fz, RM.run] at h; injection h with h; subst h
    cases hr with
    | data _ vs h1 h2 => exact ⟨s.g, hi, .refl s, .refl _, h1, fun i c u hc hu => h2 i c u hc hu⟩
  | slr b i n =>
    obtain ⟨g', h1, h2, h3, c, hc, rc⟩ := fz_slr_rel hi hF h hr
    refine ⟨g', h1, h2, h3, by rw [hc, rc.cells1]; rfl, fun i c' u hc' hu => ?_⟩
    rw [rc.cells1] at hu
    rw [hc] at hc'
    cases i with
    | zero => simp at hc' hu; subst hc' hu; exact rc
    | succ i => simp at hc'
  | agg cs =>
    simp only [fz] at h
    cases hr with
    | agg _ vs h1 h0 h2 =>
      obtain ⟨g', k1, k2, k3, k4, k5⟩ := fzL_rel (vs := vs.toList) hi hF h (by simpa using h1) fun i x v hx hv => h2 i x v hx (by simpa using hv)
      exact ⟨g', k1, k2, k3, by simpa [Value.cells] using k4, fun i c u hc hu => k5 i c u hc (by simpa [Value.cells] using hu)⟩
  | _ => simp only [fz, RM.run] at h; cases h

theorem evo_rel (he : EnvRel s a.tmps env) {x : Option Opd} {y : Option Operand} {v : Option AV} (h : (evo x).run ⟨env, s.σ⟩ = some v) (hc : chkOo x y = true) :
    (v = none ∧ y = none) ∨ ∃ u q, v = some u ∧ y = some q ∧ RelA s u (a.eval q) := by
  cases x with
  | none =>
    simp only [evo, RM.run] at h; injection h with h; subst h
    cases y with
    | none => exact .inl ⟨rfl, rfl⟩
    | some _ => simp [chkOo] at hc
  | some x =>
    cases y with
    | none => simp [chkOo] at hc
    | some y =>
      simp only [evo] at h
      obtain ⟨u, h1, h⟩ := bind_some h
      simp only [RM.run] at h; injection h with h; subst h
      exact .inr ⟨u, y, rfl, rfl, ev_rel he h1 hc⟩

theorem bound_run {x : AV} {top n : Nat} {dflt : Nat} {v : Value} (h : boundOf (some x) top dflt = some n) (hr : RelA s x v) (top' : Nat) (hle : top ≤ top') (code : BoundsCode) (w : World) :
    (Instr.sliceBound v top' code).run P w = .ok n w ∧ n ≤ top := by
  unfold boundOf at h
  split at h
  · rename_i heq; cases heq
  · rename_i heq; injection heq with heq; subst heq
    split at h
    · rename_i hc
      injection h with h; subst h
      have := relA_i hr; subst this
      refine ⟨?_, by omega⟩
      simp only [Instr.sliceBound, asIntOf, Sem.run_bind, Sem.run_pure, Result.andThen_ok]
      rw [if_pos ⟨hc.1, by omega⟩]
      rfl
    · cases h
  · cases h

theorem cutN_some {n : Nat} {lo hi : Option AV} {c : Nat × Nat} (h : cutN n lo hi = some c) : boundOf hi n n = some c.2 ∧ boundOf lo c.2 0 = some c.1 := by
  unfold cutN at h
  split at h
  · cases h
  · rename_i j hj
    split at h
    · cases h
    · rename_i i hi
      injection h with h; subst h
      exact ⟨hj, hi⟩

/-- The bounds of a slice expression without a third index. -/
theorem bounds_run (he : EnvRel s a.tmps env) {lo hi : Option Opd} {lo' hi' : Option Operand} {l h : Option AV} {len cap : Nat} {c : Nat × Nat} {isSlice : Bool}
    (h1 : (evo lo).run ⟨env, s.σ⟩ = some l) (h2 : (evo hi).run ⟨env, s.σ⟩ = some h) (c1 : chkOo lo lo' = true) (c2 : chkOo hi hi' = true)
    (hc : cutN len l h = some c) (hle : len ≤ cap) (w : World) :
    (Instr.sliceBounds isSlice len cap (lo'.map a.eval) (hi'.map a.eval) none).run P w = .ok (c.1, c.2, cap) w ∧ c.1 ≤ c.2 ∧ c.2 ≤ len := by
  obtain ⟨hj, hi0⟩ := cutN_some hc
  obtain ⟨i, j⟩ := c
  rcases evo_rel he h2 c2 with ⟨rfl, rfl⟩ | ⟨u, q, rfl, rfl, hr⟩
  · simp [boundOf] at hj; subst hj
    rcases evo_rel he h1 c1 with ⟨rfl, rfl⟩ | ⟨u', q', rfl, rfl, hr'⟩
    · simp [boundOf] at hi0; subst hi0
      exact ⟨by simp [Instr.sliceBounds], Nat.zero_le _, Nat.le_refl _⟩
    · obtain ⟨k1, k2⟩ := bound_run (P := P) hi0 hr' len (Nat.le_refl _) .sliceB w
      exact ⟨by simp [Instr.sliceBounds, k1], k2, Nat.le_refl _⟩
  · rcases evo_rel he h1 c1 with ⟨rfl, rfl⟩ | ⟨u', q', rfl, rfl, hr'⟩
    · obtain ⟨k1, k2⟩ := bound_run (P := P) hj hr cap hle (if isSlice then .sliceAcap else .sliceAlen) w
      simp [boundOf] at hi0; subst hi0
      exact ⟨by simp [Instr.sliceBounds, k1], Nat.zero_le _, k2⟩
    · obtain ⟨k1, k2⟩ := bound_run (P := P) hj hr cap hle (if isSlice then .sliceAcap else .sliceAlen) w
      obtain ⟨k3, k4⟩ := bound_run (P := P) hi0 hr' j (Nat.le_refl _) .sliceB w
      exact ⟨by simp [Instr.sliceBounds, k1, k3], k4, k2⟩

theorem sl_sub {esz : Nat} {rows : List (List PV)} {v : Value} {i j : Nat} (h : RelP s.w s.g.C (.sl esz rows) v) (hij : i ≤ j) (hj : j ≤ rows.length) :
    ∃ ad cap, v = .slice ad rows.length cap ∧ rows.length ≤ cap ∧
      RelP s.w s.g.C (.sl esz ((rows.drop i).take (j - i))) (.slice (if cap = i then ad else ad.map (·.add (i * esz))) (j - i) (cap - i)) := by
  have hlen : ((rows.drop i).take (j - i)).length = j - i := by simp; omega
  cases h with
  | sl0 _ ad cap =>
    have hj' : j = 0 := by simpa using hj
    have hi' : i = 0 := by omega
    subst hj' hi'
    refine ⟨ad, cap, rfl, Nat.zero_le _, ?_⟩
    simpa using RelP.sl0 (w := s.w) (C := s.g.C) esz _ _
  | sl _ _ r o cap vals p1 p2 p3 p4 =>
    refine ⟨_, cap, rfl, p1, ?_⟩
    by_cases hci : cap = i
    · have h0 : j - i = 0 := by omega
      rw [h0]
      simpa using RelP.sl0 (w := s.w) (C := s.g.C) esz _ _
    · rw [if_neg hci]
      have := RelP.sl (w := s.w) (C := s.g.C) esz ((rows.drop i).take (j - i)) r (o + i * esz) (cap - i) (fun k m => vals (i + k) m) (by omega)
        (fun row hr => p2 row (List.mem_of_mem_drop (List.mem_of_mem_take hr)))
        (fun k m row x hk hm => by
          rw [List.getElem?_take] at hk
          split at hk
          · rw [List.getElem?_drop] at hk
            have := p3 (i + k) m row x hk hm
            rwa [show o + (i + k) * esz + m = o + i * esz + k * esz + m by rw [Nat.add_mul]; omega] at this
          · cases hk)
        (fun k m row x hk hm => by
          rw [List.getElem?_take] at hk
          split at hk
          · rw [List.getElem?_drop] at hk
            exact p4 (i + k) m row x hk hm
          · cases hk)
      rw [hlen] at this
      simpa [add_addr] using this

def sliceK (k : SK) (x : AV) (lo hi : Option AV) : Option AV :=
  match k with
  | .str => sliceS x lo hi
  | .sl esz => sliceL esz x lo hi

theorem ok_slice (hi : Inv s) (he : EnvRel s a.tmps env) {k x lo hi' mx} (h : (opR F (.slice k x lo hi' mx) new).run ⟨env, s.σ⟩ = some e) (hc : chkOp P (.slice k x lo hi' mx) o.op = true) : OpOk P o a s e := by
  simp only [opR] at h
  obtain ⟨u, h1, h⟩ := bind_some h
  obtain ⟨l, h2, h⟩ := bind_some h
  obtain ⟨hh, h3, h⟩ := bind_some h
  obtain ⟨m, h4, h⟩ := bind_some h
  unfold chkOp at hc
  simp only at hc
  split at hc
  · rename_i t y lo2 hi2 mx2 hop
    simp only [Bool.and_eq_true] at hc
    obtain ⟨⟨⟨⟨hx, c1⟩, c2⟩, c3⟩, ht⟩ := hc
    have rx := ev_rel he h1 hx
    have noMax : ∀ {c : AV} {r}, sliceP k c l hh m = some r → mx2 = none ∧ sliceK k c l hh = some r := by
      intro c r hs
      rcases evo_rel he h4 c3 with ⟨rfl, rfl⟩ | ⟨u, q, rfl, rfl, _⟩
      · exact ⟨rfl, hs⟩
      · simp [sliceP] at hs
    have strCase : ∀ {b : List UInt8} {r}, sliceP k (.p (.s b)) l hh m = some r → a.eval y = .string ⟨b.toArray⟩ → OpOk P o a s ⟨r, []⟩ := by
      intro b r hs hz
      obtain ⟨rfl, hq⟩ := noMax hs
      clear hs
      have hs := hq
      clear hq
      cases k with
      | sl esz => simp [sliceK, sliceL] at hs
      | str =>
        simp only [sliceK, sliceS] at hs
        split at hs
        · rename_i c hc
          injection hs with hs; subst hs
          have ht' := isStr_iff ht
          obtain ⟨hb, hij, hjl⟩ := bounds_run (P := P) (isSlice := false) (cap := b.length) he h2 h3 c1 c2 hc (Nat.le_refl _) s.w
          have hex : (⟨b.toArray⟩ : ByteArray).extract c.1 c.2 = ⟨((b.drop c.1).take (c.2 - c.1)).toArray⟩ := by
            apply ByteArray.ext
            rw [ByteArray.data_extract]
            apply Array.ext'
            simp [List.extract]
          refine opOk_pure hi (v := .string ⟨((b.drop c.1).take (c.2 - c.1)).toArray⟩) ?_ (relA_s' _)
          simp only [execOp, hop, hz]
          simp [Instr.sliceAt, Instr.slice, run_underlying ht', bs_size, hb, hex]
        · cases hs
    have slCase : ∀ {s' : Sn} {ws} {esz rows r} {g'}, s' = ⟨upd ws s.σ, g', s.w⟩ → Inv s' → Trans s s' → sliceP k (.p (.sl esz rows)) l hh m = some r → RelP s'.w s'.g.C (.sl esz rows) (a.eval y) → OpOk P o a s ⟨r, ws⟩ := by
      intro s' ws esz rows r g' hs' hi' t' hs hr
      obtain ⟨rfl, hq⟩ := noMax hs
      clear hs
      have hs := hq
      clear hq
      cases k with
      | str => simp [sliceK, sliceS] at hs
      | sl ez =>
        simp only [sliceK, sliceL] at hs
        split at hs
        · rename_i hez; subst hez
          split at hs
          · rename_i c hc
            injection hs with hs; subst hs
            simp only at ht
            split at ht
            · rename_i el hel
              simp only [beq_iff_eq] at ht
              have hb0 := bounds_run (P := P) (isSlice := true) he h2 h3 c1 c2 hc (Nat.le_refl _) s.w
              obtain ⟨ad, cap, hv, hcap, hrel⟩ := sl_sub hr hb0.2.1 hb0.2.2
              obtain ⟨hb, _, _⟩ := bounds_run (P := P) (isSlice := true) he h2 h3 c1 c2 hc hcap s.w
              subst hs'
              refine opOk_val (e := ⟨_, ws⟩) (w' := s.w) (g' := g') ?_ hi' t' (.p _ _ hrel)
              simp only [execOp, hop, hv]
              simp [Instr.sliceAt, Instr.slice, run_underlying (elT_some hel), hb, run_size ht]
            · cases ht
          · cases hs
        · cases hs
    split at h
    · rename_i b i n
      obtain ⟨y', h5, h⟩ := bind_some h
      obtain ⟨g', i1, t1, f1, c, hc1, rc⟩ := fz_slr_rel hi (.refl _) h5 rx
      split at h
      · rename_i c' hc'
        rw [hc1] at hc'; injection hc' with hc'; subst hc'
        split at h
        · rename_i r hr
          simp only [RM.run] at h; injection h with h; subst h
          have : ∃ ez rw, c = .sl ez rw := by
            simp only [fz, RM.run] at h5
            split at h5
            · split at h5
              · split at h5
                · simp only [RM.run] at h5; injection h5 with h5; subst h5
                  simp at hc1
                  exact ⟨_, _, hc1.symm⟩
                · cases h5
              · cases h5
            · cases h5
          obtain ⟨ez, rw', rfl⟩ := this
          exact slCase rfl i1 t1 hr rc
        · cases h
      · cases h
    · rename_i x' hne
      obtain ⟨r, hr, rfl⟩ := val_some h
      cases u with
      | p c =>
        cases c with
        | s b => exact strCase hr (relA_s rx)
        | sl esz rows => cases rx with | p _ _ rx => exact slCase (s' := s) (ws := []) (g' := s.g) rfl hi (.refl s) hr rx
        | _ => obtain ⟨_, hr⟩ := noMax hr; cases k <;> simp [sliceK, sliceS, sliceL] at hr
      | slr b i n => exact absurd rfl (hne b i n)
      | _ => obtain ⟨_, hr⟩ := noMax hr; cases k <;> simp [sliceK, sliceS, sliceL] at hr
  · cases hc

end
end Go.Am
