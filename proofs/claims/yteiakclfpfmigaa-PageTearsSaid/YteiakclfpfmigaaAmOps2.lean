/-
  The abstract machine: its operations are the model's (values).
-/
import Derived.Test.YteiakclfpfmigaaAmOps
import Derived.Laws.Cover3
import Derived.Laws.Pointers
set_option linter.unusedSimpArgs false
set_option linter.unusedVariables false
namespace Go.Am
section
variable {P : Program} {F : Orc} {s : Sn} {a : Act} {env : List (Nat × AV)} {o : Oper} {new : Nat} {e : Eff}

theorem ok_mv (hi : Inv s) (he : EnvRel s a.tmps env) {x} (h : (opR F (.mv x) new).run ⟨env, s.σ⟩ = some e) (hc : chkOp P (.mv x) o.op = true) : OpOk P o a s e := by
  simp only [opR] at h
  obtain ⟨v, h1, h⟩ := bind_some h
  simp only [RM.run] at h; injection h with h; subst h
  unfold chkOp at hc
  simp only at hc
  split at hc
  · rename_i y hop
    exact opOk_pure hi (by simp only [execOp, hop]; rfl) (ev_rel he h1 hc)
  · rename_i y hop
    exact opOk_pure hi (by simp only [execOp, hop]; rfl) (ev_rel he h1 hc)
  · cases hc

theorem ok_pick (hi : Inv s) (he : EnvRel s a.tmps env) {c x y} (h : (opR F (.pick c x y) new).run ⟨env, s.σ⟩ = some e) (hc : chkOp P (.pick c x y) o.op = true) : OpOk P o a s e := by
  simp only [opR] at h
  obtain ⟨v, h1, h⟩ := bind_some h
  unfold chkOp at hc
  simp only at hc
  split at hc
  · rename_i c' x' y' hop
    simp only [Bool.and_eq_true] at hc
    split at h
    · rename_i b
      have hb := relA_b (ev_rel he h1 hc.1.1)
      split at h
      · rename_i hbt
        obtain ⟨u, h2, h⟩ := bind_some h
        simp only [RM.run] at h; injection h with h; subst h
        exact opOk_pure hi (v := a.eval x') (by simp [execOp, hop, hb, hbt, asBool]) (ev_rel he h2 hc.1.2)
      · rename_i hbt
        obtain ⟨u, h2, h⟩ := bind_some h
        simp only [RM.run] at h; injection h with h; subst h
        have hbt : b = false := by simpa using hbt
        exact opOk_pure hi (v := a.eval y') (by simp [execOp, hop, hb, hbt, asBool]) (ev_rel he h2 hc.2)
    · simp only [RM.run] at h; cases h
  · cases hc

theorem ok_nilchk (hi : Inv s) (he : EnvRel s a.tmps env) {x} (h : (opR F (.nilchk x) new).run ⟨env, s.σ⟩ = some e) (hc : chkOp P (.nilchk x) o.op = true) : OpOk P o a s e := by
  simp only [opR] at h
  obtain ⟨v, h1, h⟩ := bind_some h
  unfold chkOp at hc
  simp only at hc
  split at hc
  · rename_i y hop
    have hr := ev_rel he h1 hc
    split at h <;> (simp only [RM.run] at h; try cases h)
    · refine opOk_pure hi (v := a.eval y) ?_ hr
      generalize hu : a.eval y = u at hr
      cases hr
      simp [execOp, hop, hu]
    · refine opOk_pure hi (v := a.eval y) ?_ hr
      generalize hu : a.eval y = u at hr
      cases hr
      simp [execOp, hop, hu]
    · refine opOk_pure hi (v := a.eval y) ?_ hr
      generalize hu : a.eval y = u at hr
      cases hr with
      | ep _ _ _ _ _ _ _ _ h0 =>
        obtain ⟨r, o', rfl⟩ := h0
        simp [execOp, hop, hu]
    · refine opOk_pure hi (v := a.eval y) ?_ hr
      generalize hu : a.eval y = u at hr
      cases hr
      simp [execOp, hop, hu]
  · cases hc

theorem guard_scalar {op : BinOp} {t : TypeId} {x y : Operand} {u v : Value} (h : (∀ c, u ≠ .agg c) ∧ u ≠ .nilIface) (w : World) : (eqGuard op t x y u v).run P w = .ok () w := by
  unfold eqGuard
  cases op <;> simp
  all_goals (cases u <;> simp_all)

theorem ok_bin_plain (hi : Inv s) (he : EnvRel s a.tmps env) {op x y} (h : (opR F (.bin op .plain x y) new).run ⟨env, s.σ⟩ = some e) (hc : chkOp P (.bin op .plain x y) o.op = true) : OpOk P o a s e := by
  simp only [opR] at h
  obtain ⟨u, h1, h⟩ := bind_some h
  obtain ⟨v, h2, h⟩ := bind_some h
  obtain ⟨r, h3, rfl⟩ := val_some h
  unfold chkOp at hc
  simp only at hc
  split at hc
  · rename_i op' t x' y' ty hop
    simp only [Bool.and_eq_true, beq_iff_eq] at hc
    obtain ⟨⟨rfl, hx⟩, hy⟩ := hc
    have rx := ev_rel he h1 hx
    have ry := ev_rel he h2 hy
    have hex : ∀ {z : Value}, (∀ c, a.eval x' ≠ .agg c) ∧ a.eval x' ≠ .nilIface → (binOp op t (a.eval x') (a.eval y')).run P s.w = .ok z s.w → (execOp a.eval o).run P s.w = .ok (.value z) s.w := by
      intro z hg hz
      simp [execOp, hop, guard_scalar hg, hz]
    simp only [binP] at h3
    split at h3
    · rename_i xk p yk q
      rw [relA_i rx, relA_i ry] at hex
      split at h3
      · obtain ⟨z, hz, rfl⟩ := Option.map_eq_some_iff.1 h3
        obtain ⟨v, hv, hr⟩ := bin_run_shift (s := s) (P := P) (t := t) (.inl rfl) hz s.w
        exact opOk_pure hi (hex (by simp) hv) (.p _ _ hr)
      · obtain ⟨z, hz, rfl⟩ := Option.map_eq_some_iff.1 h3
        obtain ⟨v, hv, hr⟩ := bin_run_shift (s := s) (P := P) (t := t) (.inr rfl) hz s.w
        exact opOk_pure hi (hex (by simp) hv) (.p _ _ hr)
      · rename_i n1 n2
        split at h3
        · rename_i hk; subst hk
          obtain ⟨z, hz, rfl⟩ := Option.map_eq_some_iff.1 h3
          obtain ⟨v, hv, hr⟩ := bin_run_int (s := s) (P := P) (t := t) (fun e => n1 e) (fun e => n2 e) hz s.w
          exact opOk_pure hi (hex (by simp) hv) (.p _ _ hr)
        · cases h3
    · rw [relA_s rx, relA_s ry] at hex
      obtain ⟨z, hz, rfl⟩ := Option.map_eq_some_iff.1 h3
      obtain ⟨v, hv, hr⟩ := bin_run_str (s := s) (P := P) (t := t) hz s.w
      exact opOk_pure hi (hex (by simp) hv) (.p _ _ hr)
    · cases h3
  · cases hc

theorem ok_bin_bool (hi : Inv s) (he : EnvRel s a.tmps env) {op x y} (h : (opR F (.bin op .bool x y) new).run ⟨env, s.σ⟩ = some e) (hc : chkOp P (.bin op .bool x y) o.op = true) : OpOk P o a s e := by
  simp only [opR] at h
  obtain ⟨u, h1, h'⟩ := bind_some h
  obtain ⟨v, h2, h''⟩ := bind_some h'
  obtain ⟨r, h3, rfl⟩ := val_some h''
  clear h h' h''
  unfold chkOp at hc
  simp only at hc
  split at hc
  · rename_i op' t x' y' ty hop
    simp only [Bool.and_eq_true, beq_iff_eq] at hc
    obtain ⟨⟨rfl, hx⟩, hy, ht⟩ := hc
    have rx := ev_rel he h1 hx
    have ry := ev_rel he h2 hy
    have hb := isBoolT_iff ht
    simp only [binP] at h3
    split at h3
    · rename_i _ _ p q
      have ex := relA_b rx
      have ey := relA_b ry
      cases op <;> simp only [negB] at h3 <;> first | (injection h3 with h3; subst h3) | cases h3
      · exact opOk_pure hi (v := .bool (p == q)) (by simp [execOp, hop, ex, ey, eqGuard, binOp, run_equal_bool, hb]) (relA_b' _)
      · exact opOk_pure hi (v := .bool (!(p == q))) (by simp [execOp, hop, ex, ey, eqGuard, binOp, run_equal_bool, hb]) (relA_b' _)
    · cases h3
  · cases hc

theorem run_eq_nil {op : BinOp} {t : TypeId} {u v : Value} {b : Bool} (ho : op = .eql ∨ op = .neq) {w : World} (h : (Op.equal t u v).run P w = .ok b w)
    (hu : (∃ x n c, u = .slice x n c) ∨ (∃ p, u = .pointer p ∧ v = .pointer none) ∨ u = .nilFunc ∨ (∃ f y c, u = .func f y c)) :
    (binOp op t u v).run P w = .ok (.bool (if op = .eql then b else !b)) w := by
  rcases ho with rfl | rfl
  · have : binOp .eql t u v = (do pure (.bool (← Op.equal t u v))) := by
      rcases hu with ⟨x, n, c, rfl⟩ | ⟨p, rfl, rfl⟩ | rfl | ⟨f, y, c, rfl⟩ <;> simp [binOp]
    rw [this]; simp [h]
  · have : binOp .neq t u v = (do pure (.bool (!(← Op.equal t u v)))) := by
      rcases hu with ⟨x, n, c, rfl⟩ | ⟨p, rfl, rfl⟩ | rfl | ⟨f, y, c, rfl⟩ <;> simp [binOp]
    rw [this]; simp [h]

theorem negB_some {op : BinOp} {b : Bool} {r : AV} (h : negB op (some b) = some r) : (op = .eql ∨ op = .neq) ∧ r = .p (.b (if op = .eql then b else !b)) := by
  cases op <;> simp [negB] at h
  · exact ⟨.inl rfl, by simp [← h]⟩
  · exact ⟨.inr rfl, by simp [← h]⟩

theorem negU_some {op : BinOp} {r : AV} (h : negU op = some r) : (op = .eql ∨ op = .neq) ∧ r = .unk := by
  cases op <;> simp [negU] at h
  · exact ⟨.inl rfl, h.symm⟩
  · exact ⟨.inr rfl, h.symm⟩

theorem ok_bin_nils (hi : Inv s) (he : EnvRel s a.tmps env) {op x y} (h : (opR F (.bin op .nils x y) new).run ⟨env, s.σ⟩ = some e) (hc : chkOp P (.bin op .nils x y) o.op = true) : OpOk P o a s e := by
  simp only [opR] at h
  obtain ⟨u, h1, h'⟩ := bind_some h
  obtain ⟨v, h2, h''⟩ := bind_some h'
  obtain ⟨r, h3, rfl⟩ := val_some h''
  clear h h' h'' h2
  unfold chkOp at hc
  simp only at hc
  split at hc
  · rename_i op' t x' y' ty hop
    simp only [Bool.and_eq_true, beq_iff_eq] at hc
    obtain ⟨⟨rfl, hx⟩, ht⟩ := hc
    have rx := ev_rel he h1 hx
    clear h1
    have hy : y' = .const (.slice none 0 0) ∧ ∃ el, P.underlying t = some (.slice el) := by
      unfold nilS at ht
      split at ht
      · obtain ⟨el, hel⟩ := Option.isSome_iff_exists.1 ht
        exact ⟨rfl, el, elT_some hel⟩
      · cases ht
    obtain ⟨rfl, el, hu⟩ := hy
    have go : ∀ (z : Option Addr) (n c : Nat), a.eval x' = .slice z n c → (op = .eql ∨ op = .neq) →
        (execOp a.eval o).run P s.w = .ok (.value (.bool (if op = .eql then z.isNone else !z.isNone))) s.w := by
      intro z n c hz ho
      have h1 := run_eq_nil (P := P) (t := t) ho (run_equal_slice_nil s.w t el z n c hu) (.inl ⟨z, n, c, rfl⟩)
      simp only [execOp, hop, hz]
      simp only [Sem.run_bind, guard_scalar (P := P) (u := .slice z n c) (by simp), Act.eval, h1, Result.andThen_ok, Sem.run_pure]
    simp only [binP] at h3
    split at h3
    · rename_i esz rows
      cases rx with
      | p _ _ rp =>
        split at h3
        · obtain ⟨ho, rfl⟩ := negU_some h3
          generalize hz : a.eval x' = z at rp
          cases rp with
          | sl0 _ ad cap => exact opOk_pure hi (go _ _ _ hz ho) (.unk _)
          | sl _ _ r o' cap vals => exact opOk_pure hi (go _ _ _ hz ho) (.unk _)
        · obtain ⟨ho, rfl⟩ := negB_some h3
          generalize hz : a.eval x' = z at rp
          cases rp with
          | sl _ _ r o' cap vals => exact opOk_pure hi (go _ _ _ hz ho) (relA_b' _)
    · rename_i b i n
      generalize hz : a.eval x' = z at rx
      cases rx with
      | slr _ _ _ _ wm esz rows h0 =>
        obtain ⟨ad, cap, rfl, hn⟩ := h0
        split at h3
        · obtain ⟨ho, rfl⟩ := negU_some h3
          exact opOk_pure hi (go _ _ _ hz ho) (.unk _)
        · rename_i hn0
          obtain ⟨ho, rfl⟩ := negB_some h3
          have : ad.isNone = false := by
            cases ad with
            | none => exact absurd (hn.resolve_left hn0) (by simp)
            | some _ => rfl
          have h4 := go _ _ _ hz ho
          rw [this] at h4
          exact opOk_pure hi h4 (relA_b' _)
    · cases h3
  · cases hc

theorem ok_bin_nilp (hi : Inv s) (he : EnvRel s a.tmps env) {op x y} (h : (opR F (.bin op .nilp x y) new).run ⟨env, s.σ⟩ = some e) (hc : chkOp P (.bin op .nilp x y) o.op = true) : OpOk P o a s e := by
  simp only [opR] at h
  obtain ⟨u, h1, h'⟩ := bind_some h
  obtain ⟨v, h2, h''⟩ := bind_some h'
  obtain ⟨r, h3, rfl⟩ := val_some h''
  clear h h' h'' h2
  unfold chkOp at hc
  simp only at hc
  split at hc
  · rename_i op' t x' y' ty hop
    simp only [Bool.and_eq_true, beq_iff_eq] at hc
    obtain ⟨⟨rfl, hx⟩, ht⟩ := hc
    have rx := ev_rel he h1 hx
    clear h1
    have hy : y' = .const (.pointer none) ∧ ∃ el, P.underlying t = some (.pointer el) := by
      unfold nilPt at ht
      split at ht
      · split at ht
        · exact ⟨rfl, _, by assumption⟩
        · cases ht
      · cases ht
    obtain ⟨rfl, el, hu⟩ := hy
    have go : ∀ (z : Option Addr), a.eval x' = .pointer z → (op = .eql ∨ op = .neq) →
        (execOp a.eval o).run P s.w = .ok (.value (.bool (if op = .eql then z.isNone else !z.isNone))) s.w := by
      intro z hz ho
      have : P.pointee t = el := by simp [Program.pointee, hu]
      have h1 := run_eq_nil (P := P) (t := t) ho (run_equal_pointer_nil s.w t z (by rw [this]; exact hu)) (.inr (.inl ⟨z, rfl, rfl⟩))
      simp only [execOp, hop, hz]
      simp only [Sem.run_bind, guard_scalar (P := P) (u := .pointer z) (by simp), Act.eval, h1, Result.andThen_ok, Sem.run_pure]
    simp only [binP] at h3
    generalize hz : a.eval x' = z at rx
    split at h3
    · obtain ⟨ho, rfl⟩ := negB_some h3
      have := relA_np rx; subst this
      exact opOk_pure hi (go _ hz ho) (relA_b' _)
    · obtain ⟨ho, rfl⟩ := negB_some h3
      cases rx
      exact opOk_pure hi (go _ hz ho) (relA_b' _)
    · obtain ⟨ho, rfl⟩ := negB_some h3
      cases rx
      exact opOk_pure hi (go _ hz ho) (relA_b' _)
    · obtain ⟨ho, rfl⟩ := negB_some h3
      cases rx with
      | ep _ _ _ _ _ _ _ _ h0 =>
        obtain ⟨r, o', rfl⟩ := h0
        exact opOk_pure hi (go _ hz ho) (relA_b' _)
    · cases h3
  · cases hc

theorem ok_bin_nilf (hi : Inv s) (he : EnvRel s a.tmps env) {op x y} (h : (opR F (.bin op .nilf x y) new).run ⟨env, s.σ⟩ = some e) (hc : chkOp P (.bin op .nilf x y) o.op = true) : OpOk P o a s e := by
  simp only [opR] at h
  obtain ⟨u, h1, h'⟩ := bind_some h
  obtain ⟨v, h2, h''⟩ := bind_some h'
  obtain ⟨r, h3, rfl⟩ := val_some h''
  clear h h' h'' h2
  unfold chkOp at hc
  simp only at hc
  split at hc
  · rename_i op' t x' y' ty hop
    simp only [Bool.and_eq_true, beq_iff_eq] at hc
    obtain ⟨⟨rfl, hx⟩, ht⟩ := hc
    have rx := ev_rel he h1 hx
    clear h1
    have hy : y' = .const .nilFunc ∧ ∃ p r v, P.underlying t = some (.func p r v) := by
      unfold nilF at ht
      split at ht
      · split at ht
        · exact ⟨rfl, _, _, _, by assumption⟩
        · cases ht
      · cases ht
    obtain ⟨rfl, p, rr, vv, hu⟩ := hy
    simp only [binP] at h3
    generalize hz : a.eval x' = z at rx
    split at h3
    · obtain ⟨ho, rfl⟩ := negB_some h3
      have := relA_nf rx; subst this
      have heq : (Op.equal t .nilFunc .nilFunc).run P s.w = .ok true s.w := by
        have : ∀ d, (Op.equalIn (d + 1) t .nilFunc .nilFunc).run P s.w = .ok true s.w := fun d => by simp [Op.equalIn, run_underlying hu]
        exact this 9999
      have h1 := run_eq_nil (P := P) (t := t) ho heq (.inr (.inr (.inl rfl)))
      refine opOk_pure hi ?_ (relA_b' _)
      simp only [execOp, hop, hz]
      simp only [Sem.run_bind, guard_scalar (P := P) (u := .nilFunc) (by simp), Act.eval, h1, Result.andThen_ok, Sem.run_pure]
    · obtain ⟨ho, rfl⟩ := negB_some h3
      cases rx
      rename_i f _ _ fs cs _ _ _ _
      have heq : (Op.equal t (.func (.func f) fs cs) .nilFunc).run P s.w = .ok false s.w := by
        have : ∀ d, (Op.equalIn (d + 1) t (.func (.func f) fs cs) .nilFunc).run P s.w = .ok false s.w := fun d => by simp [Op.equalIn, run_underlying hu]
        exact this 9999
      have h1 := run_eq_nil (P := P) (t := t) ho heq (.inr (.inr (.inr ⟨_, _, _, rfl⟩)))
      refine opOk_pure hi ?_ (relA_b' _)
      simp only [execOp, hop, hz]
      simp only [Sem.run_bind, guard_scalar (P := P) (u := .func (.func f) fs cs) (by simp), Act.eval, h1, Result.andThen_ok, Sem.run_pure]
    · cases h3
  · cases hc

end
end Go.Am
