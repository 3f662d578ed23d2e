/-
  The abstract machine: its operations are the model's (those that leave memory alone).
-/
import Derived.Test.YteiakclfpfmigaaAmChk
set_option linter.unusedSimpArgs false
set_option linter.unusedVariables false
namespace Go.Am

theorem bind_some {α β : Type} {m : RM α} {f : α → RM β} {s : St} {b : β} (h : (m.bind f).run s = some b) : ∃ a, m.run s = some a ∧ (f a).run s = some b := by
  rw [run_bind] at h
  cases hm : m.run s with
  | none => rw [hm] at h; cases h
  | some a => rw [hm] at h; exact ⟨a, rfl, h⟩

theorem val_some {x : Option AV} {s : St} {e : Eff} (h : (val x).run s = some e) : ∃ v, x = some v ∧ e = ⟨v, []⟩ := by
  cases x with
  | none => cases h
  | some v => simp only [val, RM.run] at h; injection h with h; exact ⟨v, rfl, h.symm⟩

theorem okP_rel {w C c v} (h : okP c v = true) : RelP w C c v := by
  unfold okP at h
  split at h
  · rename_i x y
    have : x = y := by simpa using h
    subst this; exact .b _
  · simp at h; obtain ⟨rfl, rfl⟩ := h; exact .i _ _
  · rename_i l ba
    have : l = ba.data.toList := by simpa using h
    subst this
    exact .s _
  · exact .sl0 _ _ _
  · exact .np
  · exact .nf
  · cases h

theorem okPL_rel {w C} : ∀ {cs : List PV} {vs : List Value}, okPL cs vs = true → cs.length = vs.length ∧ ∀ (i : Nat) x v, cs[i]? = some x → vs[i]? = some v → RelP w C x v
  | [], [], _ => ⟨rfl, fun i x v h => by simp at h⟩
  | x :: xs, v :: vs, h => by
    simp only [okPL, Bool.and_eq_true] at h
    obtain ⟨h1, h2⟩ := okPL_rel (w := w) (C := C) h.2
    refine ⟨by simp [h1], fun i y u hy hu => ?_⟩
    cases i with
    | zero => simp at hy hu; subst hy hu; exact okP_rel h.1
    | succ i => simp at hy hu; exact h2 i y u hy hu
  | [], _ :: _, h => by simp [okPL] at h
  | _ :: _, [], h => by simp [okPL] at h

theorem okC_rel {s : Sn} {c v} (h : okC c v = true) : RelA s c v := by
  unfold okC at h
  split at h
  · exact .p _ _ (okP_rel h)
  · rename_i cs vs
    obtain ⟨h1, h2⟩ := okPL_rel (w := s.w) (C := s.g.C) h
    exact .data _ _ (by simpa using h1) fun i x v hx hv => h2 i x v hx (by simpa using hv)
  · rename_i f g a c
    simp at h
    obtain ⟨⟨rfl, rfl⟩, rfl⟩ := h
    exact .fn _ _ _ _ _ rfl rfl (fun i x v h => by simp at h) (fun i x v h => by simp at h)
  · simp at h; subst h; exact .tup _ _ rfl (fun i x v h => by simp at h)
  · cases h

def EnvRel (s : Sn) (tmps : Array Value) (env : List (Nat × AV)) : Prop := ∀ n x, lk n env = some x → ∃ v, tmps[n]? = some v ∧ RelA s x v

theorem EnvRel.mono {s0 s : Sn} (hi : Inv s0) (t : Trans s0 s) {tmps env} (h : EnvRel s0 tmps env) : EnvRel s tmps env :=
  fun n x hx => let ⟨v, h1, h2⟩ := h n x hx; ⟨v, h1, h2.mono hi t⟩

section
variable {P : Program} {s : Sn} {a : Act} {env : List (Nat × AV)}

theorem ev_rel (he : EnvRel s a.tmps env) {x : Opd} {y : Operand} {v : AV} (h : (ev x).run ⟨env, s.σ⟩ = some v) (hc : chkO x y = true) : RelA s v (a.eval y) := by
  cases x with
  | t n =>
    cases y <;> simp [chkO] at hc
    subst hc
    simp only [ev, RM.run] at h
    split at h
    · rename_i u hu
      injection h with h; subst h
      obtain ⟨w, h1, h2⟩ := he _ _ hu
      simpa [Act.eval, Array.getD_eq_getD_getElem?, h1] using h2
    · cases h
  | c z =>
    simp only [ev, RM.run] at h
    injection h with h; subst h
    cases y with
    | const u => exact okC_rel (v := u) (by simpa [chkO] using hc)
    | func g =>
      cases z <;> simp [chkO] at hc
      rename_i f first caps
      cases first <;> cases caps <;> simp [chkO] at hc
      subst hc
      exact .fn _ _ _ _ _ rfl rfl (fun i x v h => by simp at h) (fun i x v h => by simp at h)
    | tmp n => simp [chkO] at hc
    | global n => simp [chkO] at hc

theorem evs_rel (he : EnvRel s a.tmps env) : ∀ {xs : List Opd} {ys : List Operand} {vs : List AV}, (evs xs).run ⟨env, s.σ⟩ = some vs → chkOs xs ys = true →
    vs.length = ys.length ∧ ∀ (i : Nat) x v, vs[i]? = some x → (ys.map a.eval)[i]? = some v → RelA s x v
  | [], [], vs, h, _ => by
    simp only [evs, RM.run] at h; injection h with h; subst h
    exact ⟨rfl, fun i x v h => by simp at h⟩
  | x :: xs, y :: ys, vs, h, hc => by
    simp only [chkOs, Bool.and_eq_true] at hc
    simp only [evs] at h
    obtain ⟨u, h1, h⟩ := bind_some h
    obtain ⟨us, h2, h⟩ := bind_some h
    simp only [RM.run] at h; injection h with h; subst h
    obtain ⟨l, r⟩ := evs_rel he h2 hc.2
    refine ⟨by simp [l], fun i z v hz hv => ?_⟩
    cases i with
    | zero => simp at hz hv; subst hz hv; exact ev_rel he h1 hc.1
    | succ i => simp at hz hv; exact r i z v hz (by simpa using hv)
  | [], _ :: _, _, _, hc => by simp [chkOs] at hc
  | _ :: _, [], _, _, hc => by simp [chkOs] at hc

/-- What an operation owes. -/
def OpOk (P : Program) (o : Oper) (a : Act) (s : Sn) (e : Eff) : Prop :=
  ∀ (next : Act → World → Prop) (Q : Exit → Act → World → Prop),
    (∀ v w' g', Inv ⟨upd e.ws s.σ, g', w'⟩ → Trans s ⟨upd e.ws s.σ, g', w'⟩ → RelA ⟨upd e.ws s.σ, g', w'⟩ e.val v → next (a.put o.dst v) w') →
    o.wp P a s.w next Q

theorem opOk_val {o : Oper} {e : Eff} {v : Value} {w' : World} {g' : Gh} (hr : (execOp a.eval o).run P s.w = .ok (.value v) w')
    (hi : Inv ⟨upd e.ws s.σ, g', w'⟩) (t : Trans s ⟨upd e.ws s.σ, g', w'⟩) (hv : RelA ⟨upd e.ws s.σ, g', w'⟩ e.val v) : OpOk P o a s e := by
  intro next Q h
  simp only [Oper.wp, hr, Oper.upon]
  exact h v w' g' hi t hv

theorem opOk_pure {o : Oper} {x : AV} {v : Value} (hi : Inv s) (hr : (execOp a.eval o).run P s.w = .ok (.value v) s.w) (hv : RelA s x v) : OpOk P o a s ⟨x, []⟩ :=
  opOk_val (e := ⟨x, []⟩) (g' := s.g) hr hi (.refl s) hv

/-- A step that draws, and leaves the heap. -/
theorem opOk_draw {o : Oper} {x : AV} {v : Value} {w' : World} (hi : Inv s) (hr : (execOp a.eval o).run P s.w = .ok (.value v) w')
    (hh : w'.heap = s.w.heap) (ho : w'.os = s.w.os) (hp : w'.output = s.w.output) (hv : RelA s x v) : OpOk P o a s ⟨x, []⟩ := by
  obtain ⟨h1, h2⟩ := same_heap hi hh ho hp
  exact opOk_val (e := ⟨x, []⟩) (g' := s.g) hr h1 h2 (hv.mono hi h2)

theorem run_typeInfo {t : TypeId} {i : TypeInfo} (h : P.info? t = some i) (w : World) : (typeInfo t).run P w = .ok i w := by
  simp [typeInfo, h]

theorem run_size {t : TypeId} {n : Nat} (h : szT P t = some n) (w : World) : (sizeOf t).run P w = .ok n w := by
  unfold szT at h
  cases hi : P.info? t with
  | none => rw [hi] at h; cases h
  | some i => rw [hi] at h; simp at h; simp [sizeOf, run_typeInfo hi, h]

theorem run_agg {t : TypeId} {b : Bool} (h : agT P t = some b) (w : World) : (isAgg t).run P w = .ok b w := by
  unfold agT at h
  cases hu : P.underlying t with
  | none => rw [hu] at h; cases h
  | some d =>
    rw [hu] at h; simp at h
    simp only [isAgg, Sem.run_bind, run_underlying hu, Result.andThen_ok]
    subst h
    cases d <;> rfl

theorem elT_some {t e : TypeId} (h : elT P t = some e) : P.underlying t = some (.slice e) := by
  unfold elT at h
  split at h
  · injection h with h; subst h; assumption
  · cases h

theorem isStr_iff {t : TypeId} (h : isStr P t = true) : P.underlying t = some .string := by
  unfold isStr at h; split at h
  · assumption
  · cases h

theorem isU8_iff {t : TypeId} (h : isU8 P t = true) : P.underlying t = some (.int .u8) := by
  unfold isU8 at h; split at h
  · assumption
  · cases h

theorem isBoolT_iff {t : TypeId} (h : isBoolT P t = true) : P.underlying t = some .bool := by
  unfold isBoolT at h; split at h
  · assumption
  · cases h

theorem isInt_iff {t : TypeId} (h : isInt P t = true) : ∃ k, P.underlying t = some (.int k) := by
  unfold isInt at h; split at h
  · exact ⟨_, by assumption⟩
  · cases h

theorem isIntK_iff {t : TypeId} {k : IntKind} (h : isIntK P k t = true) : P.underlying t = some (.int k) := by
  unfold isIntK at h; split at h
  · rename_i k' hk
    have : k = k' := by simpa using h
    subst this; exact hk
  · cases h

theorem arT_some {t e : TypeId} {n : Nat} (h : arT P t = some (n, e)) : P.underlying t = some (.array n e) := by
  unfold arT at h; split at h
  · simp at h; obtain ⟨rfl, rfl⟩ := h; assumption
  · cases h

theorem flT_some {t : TypeId} {fs : Array Field} (h : flT P t = some fs) : P.underlying t = some (.struct fs) := by
  unfold flT at h; split at h
  · simp at h; subst h; assumption
  · cases h

/-! ### Inversions of the relation -/

theorem relA_i {x k n} (h : RelA s (.p (.i k n)) x) : x = .int k n := by cases h with | p _ _ h => cases h; rfl
theorem relA_b {x n} (h : RelA s (.p (.b n)) x) : x = .bool n := by cases h with | p _ _ h => cases h; rfl
theorem relA_s {x l} (h : RelA s (.p (.s l)) x) : x = .string ⟨l.toArray⟩ := by cases h with | p _ _ h => cases h; rfl
theorem relA_np {x} (h : RelA s (.p .np) x) : x = .pointer none := by cases h with | p _ _ h => cases h; rfl
theorem relA_nf {x} (h : RelA s (.p .nf) x) : x = .nilFunc := by cases h with | p _ _ h => cases h; rfl
theorem relA_i' (k n) : RelA s (.p (.i k n)) (.int k n) := .p _ _ (.i _ _)
theorem relA_b' (n) : RelA s (.p (.b n)) (.bool n) := .p _ _ (.b _)
theorem relA_s' (l) : RelA s (.p (.s l)) (.string ⟨l.toArray⟩) := .p _ _ (.s _)

theorem bs_toList (l : List UInt8) : ByteArray.toList ⟨l.toArray⟩ = l := by rw [ByteArray.toList_eq]
theorem bs_size (l : List UInt8) : ByteArray.size ⟨l.toArray⟩ = l.length := by simp [ByteArray.size]
theorem bs_append (l m : List UInt8) : (⟨l.toArray⟩ : ByteArray) ++ ⟨m.toArray⟩ = ⟨(l ++ m).toArray⟩ := by
  apply ByteArray.ext
  rw [ByteArray.data_append]
  simp

theorem bin_run_int {op : BinOp} {k : IntKind} {x y : Int} {t : TypeId} {r : PV} (hns : op ≠ .shl) (hnr : op ≠ .shr) (h : intP op k x y = some r) (w : World) :
    ∃ v, (binOp op t (.int k x) (.int k y)).run P w = .ok v w ∧ RelP s.w s.g.C r v := by
  cases op <;> simp only [intP] at h
  case add => injection h with h; subst h; exact ⟨_, by simp [binOp, Op.intArith], .i _ _⟩
  case sub => injection h with h; subst h; exact ⟨_, by simp [binOp, Op.intArith], .i _ _⟩
  case mul => injection h with h; subst h; exact ⟨_, by simp [binOp, Op.intArith], .i _ _⟩
  case quo => split at h
              · cases h
              · rename_i hy; injection h with h; subst h; exact ⟨_, by simp [binOp, Op.intDiv, hy], .i _ _⟩
  case rem => split at h
              · cases h
              · rename_i hy; injection h with h; subst h; exact ⟨_, by simp [binOp, Op.intDiv, hy], .i _ _⟩
  case and => injection h with h; subst h; exact ⟨_, by simp [binOp, Op.intBits], .i _ _⟩
  case or => injection h with h; subst h; exact ⟨_, by simp [binOp, Op.intBits], .i _ _⟩
  case xor => injection h with h; subst h; exact ⟨_, by simp [binOp, Op.intBits], .i _ _⟩
  case eql => injection h with h; subst h; exact ⟨_, by simp [binOp, Op.intCmp], .b _⟩
  case neq => injection h with h; subst h; exact ⟨_, by simp [binOp, Op.intCmp], .b _⟩
  case lss => injection h with h; subst h; exact ⟨_, by simp [binOp, Op.intCmp], .b _⟩
  case leq => injection h with h; subst h; exact ⟨_, by simp [binOp, Op.intCmp], .b _⟩
  case gtr => injection h with h; subst h; exact ⟨_, by simp [binOp, Op.intCmp], .b _⟩
  case geq => injection h with h; subst h; exact ⟨_, by simp [binOp, Op.intCmp], .b _⟩
  all_goals simp_all

theorem bin_run_shift {op : BinOp} {k k' : IntKind} {x y : Int} {t : TypeId} {r : PV} (hs : op = .shl ∨ op = .shr) (h : shiftP op k x y = some r) (w : World) :
    ∃ v, (binOp op t (.int k x) (.int k' y)).run P w = .ok v w ∧ RelP s.w s.g.C r v := by
  unfold shiftP at h
  split at h
  · cases h
  · rename_i hy
    rcases hs with rfl | rfl
    · injection h with h; subst h; exact ⟨_, by simp [binOp, Op.shift, hy], .i _ _⟩
    · injection h with h; subst h; exact ⟨_, by simp [binOp, Op.shift, hy], .i _ _⟩

theorem bin_run_str {op : BinOp} {x y : List UInt8} {t : TypeId} {r : PV} (h : strP op x y = some r) (w : World) :
    ∃ v, (binOp op t (.string ⟨x.toArray⟩) (.string ⟨y.toArray⟩)).run P w = .ok v w ∧ RelP s.w s.g.C r v := by
  cases op <;> simp only [strP] at h
  case add =>
    split at h
    · rename_i hl
      injection h with h; subst h
      refine ⟨.string ⟨(x ++ y).toArray⟩, ?_, .s _⟩
      have h1 : ¬ (((ByteArray.size ⟨x.toArray⟩ + ByteArray.size ⟨y.toArray⟩ : Nat) : Int) > IntKind.i64.max) := by
        rw [bs_size, bs_size]
        show ¬ (_ > (9223372036854775807 : Int))
        omega
      simp only [binOp, Op.stringOp]
      rw [if_neg h1, bs_append]
      rfl
    · cases h
  case eql => injection h with h; subst h; exact ⟨.bool (x == y), by simp [binOp, Op.stringOp], .b _⟩
  case neq => injection h with h; subst h; exact ⟨.bool (!(x == y)), by simp [binOp, Op.stringOp], .b _⟩
  case lss => injection h with h; subst h; exact ⟨.bool (Op.bytesLess x y), by simp [binOp, Op.stringOp], .b _⟩
  case leq => injection h with h; subst h; exact ⟨.bool (Op.bytesLess x y || x == y), by simp [binOp, Op.stringOp], .b _⟩
  case gtr => injection h with h; subst h; exact ⟨.bool (!(Op.bytesLess x y || x == y)), by simp [binOp, Op.stringOp], .b _⟩
  case geq => injection h with h; subst h; exact ⟨.bool (!Op.bytesLess x y), by simp [binOp, Op.stringOp], .b _⟩
  all_goals cases h

end
end Go.Am
