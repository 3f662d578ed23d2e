/-
  The abstract machine: its operations are the model's (numbers, strings, addresses).
-/
import Derived.Test.YteiakclfpfmigaaAmOps2
import Derived.Deep.AppendSrc
import Derived.Laws.MakeOwn
import Derived.Laws.BytesString
set_option linter.unusedSimpArgs false
set_option linter.unusedVariables false
namespace Go.Am

theorem put_setCells : ∀ {vs : List Value} {w : World} {r o : Nat} {c : Array Value} {e : TypeId} {fz : Nat × Nat}, w.heap[r]? = some (.cells c e fz) → o + vs.length ≤ c.size →
    Put r o vs w (w.setCells r o vs)
  | [], w, r, o, c, e, fz, h, hl => ⟨⟨c, e, fz, c, h, h, rfl, hl, fun j v hj => by simp at hj, fun _ _ => rfl⟩, fun _ _ => rfl, rfl, rfl, rfl⟩
  | v :: vs, w, r, o, c, e, fz, h, hl => by
    have hr := lt_of_cells h
    have hl' : o + 1 + vs.length ≤ c.size := by simp at hl; omega
    have h1 : (w.setCell ⟨r, o, none⟩ v).heap[r]? = some (.cells (c.setIfInBounds o v) e fz) := by
      simp [World.setCell, Array.getElem?_modify, h]
    obtain ⟨⟨c1, e1, fz1, c', p1, p2, p3, p4, p5, p6⟩, q1, q2, q3, q4⟩ := put_setCells (vs := vs) (o := o + 1) h1 (by simpa using hl')
    rw [h1] at p1; injection p1 with p1; injection p1 with a1 a2 a3; subst a1 a2 a3
    refine ⟨⟨c, e, fz, c', h, p2, by simpa using p3, hl, fun j u hj => ?_, fun k hk => ?_⟩, fun r' hne => ?_, ?_, q3, q4⟩
    · cases j with
      | zero =>
        simp at hj; subst hj
        rw [Nat.add_zero, p6 o (.inl (by omega))]
        have : o < c.size := by simp at hl; omega
        simp [this]
      | succ j =>
        have := p5 j u (by simpa using hj)
        rwa [show o + (j + 1) = o + 1 + j by omega]
    · rw [p6 k (by simp at hk; omega)]
      have : o ≠ k := by simp at hk; omega
      simp [Array.getElem?_setIfInBounds, this]
    · show ((w.setCell ⟨r, o, none⟩ v).setCells r (o + 1) vs).heap[r']? = _
      rw [q1 r' hne]
      simp [World.setCell, Array.getElem?_modify, Ne.symm hne]
    · show ((w.setCell ⟨r, o, none⟩ v).setCells r (o + 1) vs).heap.size = _
      rw [q2]; simp [World.setCell]

theorem RelP.one {w C x v} (h : RelP w C x v) : v.oneCell' = true := by cases h <;> rfl

theorem RelP.cells1 {w C x v} (h : RelP w C x v) : v.cells = #[v] := by cases h <;> rfl

section
variable {P : Program} {F : Orc} {s : Sn} {a : Act} {env : List (Nat × AV)} {o : Oper} {new : Nat} {e : Eff}

theorem ok_un (hi : Inv s) (he : EnvRel s a.tmps env) {op x} (h : (opR F (.un op x) new).run ⟨env, s.σ⟩ = some e) (hc : chkOp P (.un op x) o.op = true) : OpOk P o a s e := by
  simp only [opR] at h
  obtain ⟨u, h1, h'⟩ := bind_some h
  obtain ⟨r, h3, rfl⟩ := val_some h'
  clear h h'
  unfold chkOp at hc
  simp only at hc
  split at hc
  · rename_i op' t y hop
    simp only [Bool.and_eq_true, beq_iff_eq] at hc
    obtain ⟨rfl, hx⟩ := hc
    have rx := ev_rel he h1 hx
    clear h1
    generalize hz : a.eval y = z at rx
    unfold unP at h3
    split at h3 <;> first | (injection h3 with h3; subst h3) | cases h3
    · rename_i k n
      have := relA_i rx; subst this
      exact opOk_pure hi (v := .int k (k.wrap (0 - n))) (by simp [execOp, hop, hz, Op.unary, Op.intArith]) (relA_i' _ _)
    · rename_i k n
      have := relA_i rx; subst this
      exact opOk_pure hi (v := .int k (k.wrap (BitVec.ofInt k.bits (if k.signed then -1 else k.max) ^^^ BitVec.ofInt k.bits n).toNat)) (by simp [execOp, hop, hz, Op.unary, Op.intBits]) (relA_i' _ _)
    · rename_i b
      have := relA_b rx; subst this
      exact opOk_pure hi (v := .bool (!b)) (by simp [execOp, hop, hz, Op.unary]) (relA_b' _)
    · cases rx with
      | unk b => exact opOk_pure hi (v := .bool (!b)) (by simp [execOp, hop, hz, Op.unary]) (.unk _)
  · cases hc

theorem ok_faddr (hi : Inv s) (he : EnvRel s a.tmps env) {off x} (h : (opR F (.faddr off x) new).run ⟨env, s.σ⟩ = some e) (hc : chkOp P (.faddr off x) o.op = true) : OpOk P o a s e := by
  simp only [opR] at h
  obtain ⟨u, h1, h'⟩ := bind_some h
  obtain ⟨r, h3, rfl⟩ := val_some h'
  clear h h'
  unfold chkOp at hc
  simp only at hc
  split at hc
  · rename_i t y f hop
    simp only [Bool.and_eq_true] at hc
    obtain ⟨hx, ht⟩ := hc
    have rx := ev_rel he h1 hx
    clear h1
    have hf : ∃ fs fl n, P.underlying t = some (.struct fs) ∧ fs[f]? = some fl ∧ fl.offset = off ∧ szT P fl.type = some n ∧ n ≠ 0 := by
      split at ht
      · rename_i fs hfs
        split at ht
        · rename_i fl hfl
          simp only [Bool.and_eq_true, beq_iff_eq] at ht
          obtain ⟨h4, h5⟩ := ht
          split at h5
          · rename_i n hn
            exact ⟨fs, fl, n, flT_some hfs, hfl, h4, hn, by simpa using h5⟩
          · cases h5
        · cases ht
      · cases ht
    obtain ⟨fs, fl, n, hu, hfl, rfl, hn, hn0⟩ := hf
    have go : ∀ (r o' : Nat), a.eval y = .pointer (some ⟨r, o', none⟩) → (execOp a.eval o).run P s.w = .ok (.value (.pointer (some ⟨r, o' + fl.offset, none⟩))) s.w := by
      intro r o' hz
      have hadd : Addr.add ⟨r, o', none⟩ fl.offset = ⟨r, o' + fl.offset, none⟩ := by unfold Addr.add; split <;> simp_all
      simp only [execOp, hop, hz]
      simp [Instr.fieldAt, run_underlying hu, hfl, Instr.sureAddr, fieldPlace, run_size hn, hn0, hadd]
    generalize hz : a.eval y = z at rx
    unfold faddrP at h3
    split at h3 <;> first | (injection h3 with h3; subst h3) | cases h3
    · cases rx with
      | ptr _ _ r o' m hb => exact opOk_pure hi (go _ _ hz) (by rw [Nat.add_assoc]; exact .ptr _ _ r o' m hb)
    · cases rx with
      | cp cs _ r o' vals p1 p2 => exact opOk_pure hi (go _ _ hz) (by rw [Nat.add_assoc]; exact .cp _ _ r o' vals p1 p2)
    · cases rx with
      | ep _ _ _ _ _ wm esz rows p0 p1 p2 p3 =>
        obtain ⟨r, o', rfl⟩ := p0
        refine opOk_pure hi (go _ _ hz) (.ep _ _ _ _ _ wm esz rows ⟨_, _, rfl⟩ p1 p2 fun e1 e2 => ?_)
        obtain ⟨r', m, hv⟩ := p3 e1 e2
        simp at hv
        obtain ⟨rfl, rfl⟩ := hv
        exact ⟨r, m, by rw [Nat.add_assoc]⟩
  · cases hc

theorem ok_extr (hi : Inv s) (he : EnvRel s a.tmps env) {x i} (h : (opR F (.extr x i) new).run ⟨env, s.σ⟩ = some e) (hc : chkOp P (.extr x i) o.op = true) : OpOk P o a s e := by
  simp only [opR] at h
  obtain ⟨u, h1, h'⟩ := bind_some h
  obtain ⟨r, h3, rfl⟩ := val_some h'
  clear h h'
  unfold chkOp at hc
  simp only at hc
  split at hc
  · rename_i y j hop
    simp only [Bool.and_eq_true, beq_iff_eq] at hc
    obtain ⟨hx, rfl⟩ := hc
    have rx := ev_rel he h1 hx
    generalize hz : a.eval y = z at rx
    unfold extrP at h3
    split at h3
    · cases rx with
      | tup cs vs p1 p2 =>
        have hlt := lt_of_get h3
        have hv : vs[i]? = some vs[i] := by simp
        exact opOk_pure hi (v := vs[i]) (by simp [execOp, hop, hz, Instr.extract, hv]) (p2 i r _ h3 hv)
    · cases h3
  · cases hc

theorem ok_mkfn (hi : Inv s) (he : EnvRel s a.tmps env) {f first caps} (h : (opR F (.mkfn f first caps) new).run ⟨env, s.σ⟩ = some e) (hc : chkOp P (.mkfn f first caps) o.op = true) : OpOk P o a s e := by
  simp only [opR] at h
  obtain ⟨u, h1, h'⟩ := bind_some h
  obtain ⟨v, h2, h''⟩ := bind_some h'
  simp only [RM.run] at h''; injection h'' with h''; subst h''
  clear h h'
  unfold chkOp at hc
  simp only at hc
  split at hc
  · rename_i g first' caps' hop
    simp only [Bool.and_eq_true, beq_iff_eq] at hc
    obtain ⟨⟨rfl, hf⟩, hcp⟩ := hc
    obtain ⟨l1, r1⟩ := evs_rel he h1 hf
    obtain ⟨l2, r2⟩ := evs_rel he h2 hcp
    refine opOk_pure hi (v := .func (.func f) (first'.map a.eval) (caps'.map a.eval)) (by simp [execOp, hop, Instr.makeFunc]) (.fn _ _ _ _ _ (by simpa using l1) (by simpa using l2) (fun i x v hx hv => r1 i x v hx ?_) (fun i x v hx hv => r2 i x v hx ?_))
    · simpa using hv
    · simpa using hv
  · cases hc

theorem ok_mm (hi : Inv s) (he : EnvRel s a.tmps env) {mx x y} (h : (opR F (.mm mx x y) new).run ⟨env, s.σ⟩ = some e) (hc : chkOp P (.mm mx x y) o.op = true) : OpOk P o a s e := by
  simp only [opR] at h
  obtain ⟨u, h1, h'⟩ := bind_some h
  obtain ⟨v, h2, h''⟩ := bind_some h'
  obtain ⟨r, h3, rfl⟩ := val_some h''
  clear h h' h''
  unfold chkOp at hc
  simp only at hc
  split at hc
  · rename_i c hop
    split at hc
    · rename_i b hcal
      simp only [Bool.and_eq_true, beq_iff_eq] at hc
      obtain ⟨hb, hc⟩ := hc
      split at hc
      · rename_i x' y' hargs
        simp only [Bool.and_eq_true] at hc
        have rx := ev_rel he h1 hc.1
        have ry := ev_rel he h2 hc.2
        have hm : c.args.map a.eval = #[a.eval x', a.eval y'] := by
          apply Array.ext'
          simp [hargs]
        unfold mmP at h3
        split at h3
        · rename_i k p k' q
          injection h3 with h3; subst h3
          have ex := relA_i rx
          have ey := relA_i ry
          cases mx
          · simp only [Bool.false_eq_true, if_false] at hb ⊢
            subst hb
            refine opOk_pure hi (v := .int k (if q < p then q else p)) ?_ (relA_i' _ _)
            simp [execOp, hop, resolve, hcal, hm, ex, ey, invoke, builtin, Builtin.min_, Builtin.min2]
          · simp only [if_true] at hb ⊢
            subst hb
            refine opOk_pure hi (v := .int k (if q > p then q else p)) ?_ (relA_i' _ _)
            simp [execOp, hop, resolve, hcal, hm, ex, ey, invoke, builtin, Builtin.max_, Builtin.max2]
        · cases h3
      · cases hc
    · cases hc
  · cases hc

theorem ok_len (hi : Inv s) (he : EnvRel s a.tmps env) {str x} (h : (opR F (.len str x) new).run ⟨env, s.σ⟩ = some e) (hc : chkOp P (.len str x) o.op = true) : OpOk P o a s e := by
  simp only [opR] at h
  obtain ⟨u, h1, h'⟩ := bind_some h
  obtain ⟨r, h3, rfl⟩ := val_some h'
  clear h h'
  unfold chkOp at hc
  simp only at hc
  split at hc
  · rename_i c hop
    split at hc
    · rename_i hcal
      split at hc
      · rename_i y t hargs htys
        simp only [Bool.and_eq_true] at hc
        obtain ⟨hx, ht⟩ := hc
        have rx := ev_rel he h1 hx
        have hm : c.args.map a.eval = #[a.eval y] := by apply Array.ext'; simp [hargs]
        have ht0 : c.argTypes[0]? = some t := by rw [← Array.getElem?_toList, htys]; rfl
        generalize hz : a.eval y = z at rx
        have hs : ∀ l : List UInt8, z = .string ⟨l.toArray⟩ → isStr P t = true → (execOp a.eval o).run P s.w = .ok (.value (.int .i64 l.length)) s.w := by
          intro l hl hst
          have := isStr_iff hst
          simp [execOp, hop, resolve, hcal, hm, hz, hl, invoke, builtin, Builtin.len_, ht0, run_underlying this, goInt, bs_size]
        have hsl : ∀ ad n cp, z = .slice ad n cp → (elT P t).isSome = true → (execOp a.eval o).run P s.w = .ok (.value (.int .i64 n)) s.w := by
          intro ad n cp hl hst
          obtain ⟨el, hel⟩ := Option.isSome_iff_exists.1 hst
          have := elT_some hel
          simp [execOp, hop, resolve, hcal, hm, hz, hl, invoke, builtin, Builtin.len_, ht0, run_underlying this, goInt]
        unfold lenP at h3
        split at h3 <;> first | (injection h3 with h3; subst h3) | cases h3
        · exact opOk_pure hi (hs _ (relA_s rx) (by simpa using ht)) (relA_i' _ _)
        · cases rx with
          | p _ _ rp =>
            cases rp with
            | sl0 _ ad cap => exact opOk_pure hi (hsl _ _ _ rfl (by simpa using ht)) (relA_i' _ _)
            | sl _ _ r o' cap vals => exact opOk_pure hi (hsl _ _ _ rfl (by simpa using ht)) (relA_i' _ _)
        · cases rx with
          | slr _ _ _ _ wm esz rows h0 =>
            obtain ⟨ad, cap, hv, _⟩ := h0
            exact opOk_pure hi (hsl _ _ _ hv (by simpa using ht)) (relA_i' _ _)
      · cases hc
    · cases hc
  · cases hc

end
end Go.Am
