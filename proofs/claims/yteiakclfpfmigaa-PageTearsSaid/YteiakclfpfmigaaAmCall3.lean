/-
  The abstract machine: an operation that calls.
-/
import Derived.Test.YteiakclfpfmigaaAmCall2
set_option linter.unusedSimpArgs false
set_option linter.unusedVariables false
namespace Go.Am
section
variable {P : Program} {F : Orc} {s : Sn} {a : Act} {env : List (Nat × AV)} {o : Oper} {new : Nat} {e : Eff}

theorem argR_rel {σ0 : List Blk} (hi : Inv s) (hF : Frz σ0 s.σ) {x : AV} {y : AV × List (Nat × Blk)} {v : Value} (h : (argR x).run ⟨env, σ0⟩ = some y) (hr : RelA s x v) :
    ∃ g', Inv ⟨upd y.2 s.σ, g', s.w⟩ ∧ Trans s ⟨upd y.2 s.σ, g', s.w⟩ ∧ Frz s.σ (upd y.2 s.σ) ∧ RelA ⟨upd y.2 s.σ, g', s.w⟩ y.1 v := by
  have same : ∀ {z : AV}, (RM.ret (z, []) : RM (AV × List (Nat × Blk))).run ⟨env, σ0⟩ = some y → RelA s z v → ∃ g', Inv ⟨upd y.2 s.σ, g', s.w⟩ ∧ Trans s ⟨upd y.2 s.σ, g', s.w⟩ ∧ Frz s.σ (upd y.2 s.σ) ∧ RelA ⟨upd y.2 s.σ, g', s.w⟩ y.1 v := by
    intro z hz hr
    simp only [RM.run] at hz; injection hz with hz; subst hz
    exact ⟨s.g, hi, .refl s, .refl _, hr⟩
  cases x with
  | slr b i n =>
    simp only [argR] at h
    obtain ⟨y1, h1, h⟩ := bind_some h
    obtain ⟨g', k1, k2, k3, c, hc, rc⟩ := fz_slr_rel hi hF h1 hr
    rw [hc] at h
    simp only [RM.run] at h; injection h with h; subst h
    exact ⟨g', k1, k2, k3, .p _ _ rc⟩
  | agg cs =>
    simp only [argR] at h
    obtain ⟨y1, h1, h⟩ := bind_some h
    simp only [RM.run] at h; injection h with h; subst h
    obtain ⟨g', k1, k2, k3, k4, k5⟩ := fz_rel hi hF h1 hr
    cases hr with
    | agg _ vs h1 h0 h2 => exact ⟨g', k1, k2, k3, .data _ _ k4 fun i x v hx hv => k5 i x v hx hv⟩
  | tup => simp only [argR, RM.run] at h; cases h
  | p c => exact same h hr
  | data cs => exact same h hr
  | ptr b off => exact same h hr
  | cp cs off => exact same h hr
  | ep b e i off => exact same h hr
  | fn f first caps => exact same h hr
  | unk => exact same h hr

theorem argsR_rel {σ0 : List Blk} : ∀ {xs : List AV} {s : Sn} {y : List AV × List (Nat × Blk)} {vs : List Value}, Inv s → Frz σ0 s.σ → (argsR xs).run ⟨env, σ0⟩ = some y → xs.length = vs.length →
    (∀ (i : Nat) x v, xs[i]? = some x → vs[i]? = some v → RelA s x v) →
    ∃ g', Inv ⟨upd y.2 s.σ, g', s.w⟩ ∧ Trans s ⟨upd y.2 s.σ, g', s.w⟩ ∧ Frz s.σ (upd y.2 s.σ) ∧ y.1.length = vs.length ∧
      ∀ (i : Nat) x v, y.1[i]? = some x → vs[i]? = some v → RelA ⟨upd y.2 s.σ, g', s.w⟩ x v
  | [], s, y, vs, hi, hF, h, hl, hr => by
    simp only [argsR, RM.run] at h; injection h with h; subst h
    exact ⟨s.g, hi, .refl s, .refl _, by simpa using hl, fun i c v hc => by simp at hc⟩
  | x :: xs, s, y, [], hi, hF, h, hl, hr => by simp at hl
  | x :: xs, s, y, v :: vs, hi, hF, h, hl, hr => by
    simp only [argsR] at h
    obtain ⟨y1, h1, h⟩ := bind_some h
    obtain ⟨y2, h2, h⟩ := bind_some h
    simp only [RM.run] at h; injection h with h; subst h
    obtain ⟨g1, i1, t1, f1, r1⟩ := argR_rel hi hF h1 (hr 0 x v rfl rfl)
    obtain ⟨g2, i2, t2, f2, l2, r2⟩ := argsR_rel (s := ⟨upd y1.2 s.σ, g1, s.w⟩) i1 (hF.trans f1) h2 (by simpa using hl) fun i x v hx hv => (hr (i + 1) x v (by simpa using hx) (by simpa using hv)).mono hi t1
    refine ⟨g2, by rw [upd_app]; exact i2, by rw [upd_app]; exact t1.trans t2, by rw [upd_app]; exact f1.trans f2, by simp [l2], fun i c' v' hc' hv' => ?_⟩
    rw [upd_app]
    cases i with
    | zero =>
      simp at hc' hv'; subst hc' hv'
      exact RelA.mono (s0 := ⟨upd y1.2 s.σ, g1, s.w⟩) (s := ⟨upd y2.2 (upd y1.2 s.σ), g2, s.w⟩) i1 t2 r1
    | succ i => exact r2 i c' v' (by simpa using hc') (by simpa using hv')

/-- The entry's write. -/
def BackOk (s1 : Sn) (es : List Ent) (new : Nat) (e : Ent) (x : Blk) (y : Nat × Blk) : Prop :=
  y.1 = e.id ∧ match e with
  | .whole _ => (∃ cs l, x = .box cs ∧ bk.bkL es new cs = some l ∧ y.2 = .box l) ∨ (∃ w esz rows, x = .arr w esz rows ∧ y.2 = .arr w esz rows)
  | .elem b _ i => ∃ w esz rows row', s1.σ[b]? = some (.arr w esz rows) ∧ x = .box (row'.map .p) ∧ y.2 = .arr w esz (rows.set i row')

theorem blkOut_rel {σ0 : List Blk} {ws : List (Nat × Blk)} (hσ : s.σ = upd ws σ0) {es : List Ent} {en : Ent} {x : Blk} {y : Nat × Blk} (h : (blkOut ws es new en x).run ⟨env, σ0⟩ = some y) : BackOk s es new en x y := by
  unfold blkOut at h
  split at h
  · rename_i b cs
    split at h
    · rename_i l hl
      simp only [RM.run] at h; injection h with h; subst h
      exact ⟨rfl, .inl ⟨cs, l, rfl, hl, rfl⟩⟩
    · cases h
  · simp only [RM.run] at h; injection h with h; subst h
    exact ⟨rfl, .inr ⟨_, _, _, rfl, rfl⟩⟩
  · rename_i b ext i cs
    obtain ⟨z, h1, h⟩ := bind_some h
    have hb := getB_rel h1
    rw [← hσ] at hb
    cases z with
    | arr w esz rows =>
      dsimp only at h
      split at h
      · rename_i row' hrow
        simp only [RM.run] at h; injection h with h; subst h
        exact ⟨rfl, w, esz, rows, row', hb, by rw [unp_some hrow], rfl⟩
      · cases h
    | _ => cases h
  · cases h

theorem blksOut_rel {σ0 : List Blk} {ws : List (Nat × Blk)} (hσ : s.σ = upd ws σ0) {es : List Ent} : ∀ {ens : List Ent} {xs : List Blk} {ys : List (Nat × Blk)}, (blksOut ws es new ens xs).run ⟨env, σ0⟩ = some ys →
    ens.length = ys.length ∧ ens.length ≤ xs.length ∧ ∀ (k : Nat) en x y, ens[k]? = some en → xs[k]? = some x → ys[k]? = some y → BackOk s es new en x y
  | [], xs, ys, h => by simp only [blksOut, RM.run] at h; injection h with h; subst h; exact ⟨rfl, Nat.zero_le _, fun k e x y h => by simp at h⟩
  | _ :: _, [], ys, h => by cases h
  | en :: ens, x :: xs, ys, h => by
    simp only [blksOut] at h
    obtain ⟨y, h1, h⟩ := bind_some h
    obtain ⟨l, h2, h⟩ := bind_some h
    simp only [RM.run] at h; injection h with h; subst h
    obtain ⟨k1, k2, k3⟩ := blksOut_rel hσ h2
    refine ⟨by simp [k1], by simpa using k2, fun k e' x' y' he hx hy => ?_⟩
    cases k with
    | zero => simp at he hx hy; subst he hx hy; exact blkOut_rel hσ h1
    | succ k => exact k3 k e' x' y' (by simpa using he) (by simpa using hx) (by simpa using hy)

theorem blksNew_rel {es : List Ent} : ∀ {xs : List Blk} {k0 : Nat} {ys : List (Nat × Blk)}, blksNew es new k0 xs = some ys →
    xs.length = ys.length ∧ ∀ (j : Nat) x y, xs[j]? = some x → ys[j]? = some y → y.1 = k0 + j ∧ ((∃ cs l, x = .box cs ∧ bk.bkL es new cs = some l ∧ y.2 = .box l) ∨ (∃ w esz rows, x = .arr w esz rows ∧ y.2 = .arr w esz rows))
  | [], k0, ys, h => by simp [blksNew] at h; subst h; exact ⟨rfl, fun j x y h => by simp at h⟩
  | .dead :: _, k0, ys, h => by simp [blksNew] at h
  | .box cs :: xs, k0, ys, h => by
    simp only [blksNew] at h
    split at h
    · rename_i c l hc hl
      injection h with h; subst h
      obtain ⟨k1, k2⟩ := blksNew_rel hl
      refine ⟨by simp [k1], fun j x y hx hy => ?_⟩
      cases j with
      | zero => simp at hx hy; subst hx hy; exact ⟨rfl, .inl ⟨cs, c, rfl, hc, rfl⟩⟩
      | succ j => obtain ⟨h1, h2⟩ := k2 j x y (by simpa using hx) (by simpa using hy); exact ⟨by omega, h2⟩
    · cases h
  | .arr w esz rows :: xs, k0, ys, h => by
    simp only [blksNew] at h
    split at h
    · rename_i l hl
      injection h with h; subst h
      obtain ⟨k1, k2⟩ := blksNew_rel hl
      refine ⟨by simp [k1], fun j x y hx hy => ?_⟩
      cases j with
      | zero => simp at hx hy; subst hx hy; exact ⟨rfl, .inr ⟨w, esz, rows, rfl, rfl⟩⟩
      | succ j => obtain ⟨h1, h2⟩ := k2 j x y (by simpa using hx) (by simpa using hy); exact ⟨by omega, h2⟩
    · cases h

theorem lastW_app (b : Nat) (p q : List (Nat × Blk)) : lastW b (p ++ q) = match lastW b q with
    | some y => some y
    | none => lastW b p := by
  induction p with
  | nil => simp [lastW]; cases lastW b q <;> rfl
  | cons x p ih =>
    obtain ⟨c, z⟩ := x
    simp only [List.cons_append, lastW, ih]
    cases lastW b q <;> rfl

theorem lastW_at {b : Nat} {x : Blk} : ∀ {ws : List (Nat × Blk)}, (ws.map (·.1)).Nodup → ∀ {k : Nat}, ws[k]? = some (b, x) → lastW b ws = some x
  | [], _, k, h => by simp at h
  | (c, z) :: r, hn, k, h => by
    obtain ⟨h1, h2⟩ := List.nodup_cons.1 hn
    simp only [lastW]
    cases k with
    | zero =>
      simp at h
      obtain ⟨rfl, rfl⟩ := h
      rw [lastW_none h1]; simp
    | succ k => rw [lastW_at h2 (k := k) (by simpa using h)]

theorem nodup_shift (n k : Nat) : ((List.range k).map (n + ·)).Nodup := by
  rw [List.Nodup, List.pairwise_map]
  exact (List.nodup_range (n := k)).imp fun h e => h (by omega)

/-- An operation that calls f. -/
theorem call_ok (hF : SoundF P F) (hi : Inv s) {f : FuncId} {args : List AV} {k : Nat} {vals : Array Value} (hdead : ∀ j, j < k → s.σ[new + j]? = some .dead)
    (h : (callR F f args k new).run ⟨env, s.σ⟩ = some e) (hl : args.length = vals.size) (hr : ∀ (i : Nat) x v, args[i]? = some x → vals[i]? = some v → RelA s x v)
    (hex : ∀ fn, P.funcs[f]? = some fn → fn.body.isSome = true → (fn.name == "runtime.NumGoroutine") = false → (execOp a.eval o).run P s.w = .ok (.enter f vals) s.w) : OpOk P o a s e := by
  unfold callR at h
  obtain ⟨ar, h1, h⟩ := bind_some h
  obtain ⟨es1, h2, h⟩ := bind_some h
  obtain ⟨es, h3, h⟩ := bind_some h
  split at h
  · rename_i hnd
    split at h
    · cases h
    · rename_i args' hren
      obtain ⟨blks, h4, h⟩ := bind_some h
      split at h
      · cases h
      · rename_i r hres
        split at h
        · rename_i hlen
          split at h
          · rename_i v fresh hv hfresh
            obtain ⟨back, h5, h⟩ := bind_some h
            simp only [RM.run] at h; injection h with h; subst h
            obtain ⟨g1, i1, t1, f1, l1, r1⟩ := argsR_rel (vs := vals.toList) hi (.refl _) h1 (by simpa using hl) (fun i x v hx hv => hr i x v hx (by simpa using hv))
            let s1 : Sn := ⟨upd ar.2 s.σ, g1, s.w⟩
            obtain ⟨bl, hblk⟩ := blksIn_rel (s := s1) rfl h4
            have cin : CallIn s1 es blks := ⟨i1, nodupB_iff hnd, bl, hblk⟩
            obtain ⟨⟨fn, hfn, hbody, hname⟩, hcall⟩ := hF f args' blks r hres
            obtain ⟨q1, q2⟩ := renL_some hren
            have ci := in_inv cin
            have hc := hcall (inSn s1 es blks).g s.w vals ci (by rw [← q1, l1]; simp) (fun i x v hx hv => by
              have hlt := lt_of_get hx
              have hx0 : ar.1[i]? = some (ar.1[i]'(by omega)) := List.getElem?_eq_getElem _
              exact in_rel cin (r1 i _ v hx0 (by simpa using hv)) (q2 i _ x hx0 hx))
            intro next Q hnext
            simp only [Oper.wp, hex fn hfn hbody hname, Oper.upon]
            refine hc.mono ?_
            rintro e w' ⟨rv, g', rfl, inv', trans', rel'⟩
            simp only
            obtain ⟨b1, b2, b3⟩ := blksOut_rel (s := s1) rfl h5
            obtain ⟨n1, n2⟩ := blksNew_rel hfresh
            have hdead1 : ∀ j, j < k → s1.σ[new + j]? = some .dead := fun j hj => f1.2 _ _ (hdead j hj) (by simp)
            have hkf : (r.2.drop es.length).length = k := by simp; omega
            have hbid : back.map (·.1) = es.map Ent.id := by
              apply List.ext_getElem?
              intro i
              rw [List.getElem?_map, List.getElem?_map]
              by_cases hlt : i < es.length
              · have e1 : es[i]? = some es[i] := List.getElem?_eq_getElem hlt
                have e2 : back[i]? = some (back[i]'(by omega)) := List.getElem?_eq_getElem _
                have e3 : r.2[i]? = some (r.2[i]'(by omega)) := List.getElem?_eq_getElem _
                have := (b3 i _ _ _ e1 e3 e2).1
                rw [e1, e2]; simp [this]
              · rw [List.getElem?_eq_none (by omega), List.getElem?_eq_none (by omega)]; rfl
            have hfid : ∀ j, j < k → fresh[j]? = some (new + j, (fresh[j]?.map (·.2)).getD .dead) := by
              intro j hj
              have e1 : fresh[j]? = some (fresh[j]'(by omega)) := List.getElem?_eq_getElem _
              have e2 : (r.2.drop es.length)[j]? = some ((r.2.drop es.length)[j]'(by omega)) := List.getElem?_eq_getElem _
              have := (n2 j _ _ e2 e1).1
              rw [e1]; simp [← this]
            have hfnd : (fresh.map (·.1)).Nodup := by
              have : fresh.map (·.1) = (List.range k).map (new + ·) := by
                apply List.ext_getElem?
                intro j
                by_cases hj : j < k
                · rw [List.getElem?_map, hfid j hj, List.getElem?_map, List.getElem?_range hj]; rfl
                · rw [List.getElem?_eq_none (by simp; omega), List.getElem?_eq_none (by simp; omega)]
              rw [this]
              exact nodup_shift new k
            have hfmem : ∀ b, b ∈ fresh.map (·.1) ↔ new ≤ b ∧ b < new + k := by
              intro b
              constructor
              · intro hm
                obtain ⟨j, hj⟩ := List.getElem?_of_mem hm
                have hlt := lt_of_get hj
                simp at hlt
                rw [List.getElem?_map, hfid j (by omega)] at hj
                simp at hj; omega
              · intro hm
                have := hfid (b - new) (by omega)
                rw [show new + (b - new) = b by omega] at this
                exact List.mem_map.2 ⟨_, mem_of_get this, rfl⟩
            have hlenσ : (upd (back ++ fresh) s1.σ).length = s1.σ.length := upd_len _ _
            -- what the writes leave
            have liveE : ∀ {k0 : Nat} {en : Ent}, es[k0]? = some en → en.id < s1.σ.length ∧ ¬ (new ≤ en.id ∧ en.id < new + k) := by
              intro k0 en he
              obtain ⟨x, _, hin⟩ := in_at cin he
              have hy : ∃ y, s1.σ[en.id]? = some y ∧ y ≠ .dead := by
                cases en with
                | whole b =>
                  rcases hin with ⟨cs', l, h1, h2, rfl⟩ | ⟨w, esz', rows', h1, rfl⟩
                  · exact ⟨_, h1, by simp⟩
                  · exact ⟨_, h1, by simp⟩
                | elem b ext i =>
                  obtain ⟨esz', rows', row, h1, h2, h3, rfl⟩ := hin
                  exact ⟨_, h1, by simp⟩
              obtain ⟨y, hy, hd⟩ := hy
              refine ⟨lt_of_get hy, fun hm => ?_⟩
              have := hdead1 (en.id - new) (by omega)
              rw [show new + (en.id - new) = en.id by omega, hy] at this
              injection this with this; exact hd this
            have getE : ∀ {k0 : Nat} {en : Ent} {y : Nat × Blk}, es[k0]? = some en → back[k0]? = some y → (upd (back ++ fresh) s1.σ)[en.id]? = some y.2 := by
              intro k0 en y he hy
              obtain ⟨hlt, hnf⟩ := liveE he
              have e3 : r.2[k0]? = some (r.2[k0]'(by have := lt_of_get he; omega)) := List.getElem?_eq_getElem _
              have hid := (b3 k0 en _ y he e3 hy).1
              rw [upd_get _ _ _ hlt, lastW_app, lastW_none (by rw [hfmem]; exact hnf)]
              simp only
              rw [lastW_at (x := y.2) (by rw [hbid]; exact cin.nodup) (k := k0) (by rw [hy, ← hid])]
            have getN : ∀ {j : Nat} {y : Nat × Blk}, j < k → fresh[j]? = some y → (upd (back ++ fresh) s1.σ)[new + j]? = some y.2 := by
              intro j y hj hy
              have hlt := lt_of_get (hdead1 j hj)
              have e2 : (r.2.drop es.length)[j]? = some ((r.2.drop es.length)[j]'(by omega)) := List.getElem?_eq_getElem _
              have hid := (n2 j _ _ e2 hy).1
              rw [upd_get _ _ _ hlt, lastW_app, lastW_at (x := y.2) hfnd (k := j) (by rw [hy, ← hid])]
            have co : CallOut s1 es blks new k ⟨r.2, g', w'⟩ (upd (back ++ fresh) s1.σ) := by
              refine ⟨cin, inv', trans', hlen, hlenσ, hdead1, fun k0 y hy => ?_, fun b hb1 hb2 => ?_⟩
              · have hy : r.2[k0]? = some y := hy
                unfold OutOk
                cases he : es[k0]? with
                | some en =>
                  have hlt := lt_of_get he
                  have e2 : back[k0]? = some (back[k0]'(by omega)) := List.getElem?_eq_getElem _
                  obtain ⟨hid, hbk⟩ := b3 k0 en y _ he hy e2
                  have hg := getE he e2
                  cases en with
                  | whole b =>
                    rcases hbk with ⟨cs, l, e1, e3, e4⟩ | ⟨w, esz, rows, e1, e4⟩
                    · exact .inl ⟨cs, l, e1, e3, by rw [← e4]; exact hg⟩
                    · exact .inr ⟨w, esz, rows, e1, by rw [← e4]; exact hg⟩
                  | elem b ext i =>
                    obtain ⟨w, esz, rows, row', e1, e3, e4⟩ := hbk
                    exact ⟨w, esz, rows, row', e1, e3, by rw [← e4]; exact hg⟩
                | none =>
                  have hge : es.length ≤ k0 := by
                    rcases Nat.lt_or_ge k0 es.length with hlt | hge
                    · rw [List.getElem?_eq_getElem hlt] at he; cases he
                    · exact hge
                  have hlt := lt_of_get hy
                  have e2 : fresh[k0 - es.length]? = some (fresh[k0 - es.length]'(by omega)) := List.getElem?_eq_getElem _
                  have e3 : (r.2.drop es.length)[k0 - es.length]? = some y := by rw [List.getElem?_drop, ← hy]; congr 1; omega
                  obtain ⟨hid, hbk⟩ := n2 _ _ _ e3 e2
                  have hg := getN (j := k0 - es.length) (by omega) e2
                  rcases hbk with ⟨cs, l, e1, e5, e4⟩ | ⟨w, esz, rows, e1, e4⟩
                  · exact .inl ⟨cs, l, e1, e5, by rw [← e4]; exact hg⟩
                  · exact .inr ⟨w, esz, rows, e1, by rw [← e4]; exact hg⟩
              · by_cases hlt : b < s1.σ.length
                · rw [upd_get _ _ _ hlt, lastW_none]
                  rw [List.map_append, List.mem_append, hbid, hfmem]
                  rintro (h | h)
                  · exact hb1 h
                  · omega
                · rw [List.getElem?_eq_none (by omega), List.getElem?_eq_none (by omega)]
            have oi := out_inv co
            have ot := out_trans co
            have hupd : upd (ar.2 ++ back ++ fresh) s.σ = upd (back ++ fresh) s1.σ := by rw [List.append_assoc, upd_app]
            refine hnext rv w' (outSn s1 es new k ⟨r.2, g', w'⟩ (upd (back ++ fresh) s1.σ)).g ?_ ?_ ?_
            · rw [hupd]; exact oi
            · rw [hupd]; exact t1.trans ot
            · rw [hupd]; exact out_rel co rel' hv
          · cases h
        · cases h
  · cases h

theorem run_callFunc {f : FuncId} {args : Array Value} {fn : Func} (h1 : P.funcs[f]? = some fn) (h2 : fn.body.isSome = true) (h3 : (fn.name == "runtime.NumGoroutine") = false) (w : World) :
    (callFunc f args).run P w = .ok (.enter f args) w := by
  have h3' : fn.name ≠ "runtime.NumGoroutine" := by simpa using h3
  have h4 : fn.body ≠ none := by intro h; rw [h] at h2; cases h2
  simp [callFunc, h1, h3', h4]

theorem ok_call (hF : SoundF P F) (hi : Inv s) (he : EnvRel s a.tmps env) {f args k} (hdead : ∀ j, j < k → s.σ[new + j]? = some .dead) (h : (opR F (.call f args k) new).run ⟨env, s.σ⟩ = some e)
    (hc : chkOp P (.call f args k) o.op = true) : OpOk P o a s e := by
  simp only [opR] at h
  obtain ⟨vs, h1, h'⟩ := bind_some h
  clear h
  unfold chkOp at hc
  simp only at hc
  split at hc
  · rename_i c hop
    split at hc
    · rename_i g hcal
      simp only [Bool.and_eq_true, beq_iff_eq] at hc
      obtain ⟨rfl, hargs⟩ := hc
      obtain ⟨l, r⟩ := evs_rel he h1 hargs
      refine call_ok hF hi hdead h' (vals := c.args.map a.eval) (by simpa using l) (fun i x v hx hv => r i x v hx (by simpa using hv)) fun fn g1 g2 g3 => ?_
      simp [execOp, hop, resolve, hcal, Act.eval, Deferred.ofValue, invoke, run_callFunc g1 g2 g3]
    · cases hc
  · cases hc

theorem ok_callv (hF : SoundF P F) (hi : Inv s) (he : EnvRel s a.tmps env) {x args k} (hdead : ∀ j, j < k → s.σ[new + j]? = some .dead) (h : (opR F (.callv x args k) new).run ⟨env, s.σ⟩ = some e)
    (hc : chkOp P (.callv x args k) o.op = true) : OpOk P o a s e := by
  simp only [opR] at h
  obtain ⟨u, h0, h'⟩ := bind_some h
  clear h
  unfold chkOp at hc
  simp only at hc
  split at hc
  · rename_i c hop
    split at hc
    · rename_i y hcal
      simp only [Bool.and_eq_true] at hc
      obtain ⟨hx, hargs⟩ := hc
      have rx := ev_rel he h0 hx
      cases u with
      | fn f first caps =>
        dsimp only at h'
        obtain ⟨vs, h1, h''⟩ := bind_some h'
        obtain ⟨l, r⟩ := evs_rel he h1 hargs
        generalize hz : a.eval y = z at rx
        cases rx with
        | fn _ _ _ fs cs p1 p2 p3 p4 =>
          have l' : vs.length = c.args.size := by simpa using l
          refine call_ok hF hi hdead h'' (vals := fs ++ c.args.map a.eval ++ cs) (by simp; omega) (fun i x v hx hv => ?_) fun fn g1 g2 g3 => ?_
          · rcases get_app hx with hx | ⟨hge, hx⟩
            · have hlt := lt_of_get hx
              rw [Array.getElem?_append_left (by simp at hlt ⊢; omega)] at hv
              rcases get_app hx with hx | ⟨hge, hx⟩
              · have hlt := lt_of_get hx
                rw [Array.getElem?_append_left (by omega)] at hv
                exact p3 i x v hx hv
              · rw [Array.getElem?_append_right (by omega)] at hv
                exact r _ x v hx (by rw [← p1] at hv; simpa using hv)
            · rw [Array.getElem?_append_right (by simp at hge ⊢; omega)] at hv
              refine p4 _ x v hx ?_
              rw [← hv]; congr 1; simp; omega
          · simp [execOp, hop, resolve, hcal, hz, Deferred.ofValue, invoke, run_callFunc g1 g2 g3]
      | _ => cases h'
    · cases hc
  · cases hc

end
end Go.Am
