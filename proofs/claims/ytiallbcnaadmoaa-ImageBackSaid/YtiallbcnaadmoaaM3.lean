/-
  Parts of a proof.
-/
import Derived.Laws.Cover3
import Derived.Laws.Pointers
import Derived.Deep.AppendSrc
import Derived.Laws.MakeOwn
import Derived.Laws.BytesString
import Derived.DeepKeys
import Derived.Test.YtiallbcnaadmoaaM1
import Derived.Test.YtiallbcnaadmoaaM2
set_option linter.unusedSimpArgs false
set_option linter.unusedVariables false
section
namespace Go.Am
theorem bind_some {α β : Type} {m : RM α} {f : α → RM β} {s : St} {b : β} (h : (m.bind f).run s = some b) : ∃ a, m.run s = some a ∧ (f a).run s = some b := by
  rw [run_bind] at h
  cases hm : m.run s with
  | none => rw [hm] at h; cases h
  | some a => rw [hm] at h; exact ⟨a, rfl, h⟩
theorem J1N {x : Option AV} {s : St} {e : Eff} (h : (val x).run s = some e) : ∃ v, x = some v ∧ e = ⟨v, []⟩ := by
  cases x with
  | none => cases h
  | some v => simp only [val, RM.run] at h; injection h with h; exact ⟨v, rfl, h.symm⟩
theorem Jp4 {w C c v} (h : okP c v = true) : JJ w C c v := by
  unfold okP at h
  split at h
  · rename_i x y
    have : x = y := by simpa using h
    subst this; exact .b _
  · simp at h; obtain ⟨rfl, rfl⟩ := h; exact .i _ _
  · rename_i l ba
    have : l = ba.data.toList := by simpa using h
    subst this
    exact .s _
  · exact .sl0 _ _ _
  · exact .np
  · exact .nf
  · cases h
theorem Jef {w C} : ∀ {cs : List PV} {vs : List Value}, JhX cs vs = true → cs.length = vs.length ∧ ∀ (i : Nat) x v, cs[i]? = some x → vs[i]? = some v → JJ w C x v
  | [], [], _ => ⟨rfl, fun i x v h => by simp at h⟩
  | x :: xs, v :: vs, h => by
    simp only [JhX, Bool.and_eq_true] at h
    obtain ⟨h1, h2⟩ := Jef (w := w) (C := C) h.2
    refine ⟨by simp [h1], fun i y u hy hu => ?_⟩
    cases i with
    | zero => simp at hy hu; subst hy hu; exact Jp4 h.1
    | succ i => simp at hy hu; exact h2 i y u hy hu
  | [], _ :: _, h => by simp [JhX] at h
  | _ :: _, [], h => by simp [JhX] at h
theorem JuM {s : Sn} {c v} (h : okC c v = true) : Jr s c v := by
  unfold okC at h
  split at h
  · exact .p _ _ (Jp4 h)
  · rename_i cs vs
    obtain ⟨h1, h2⟩ := Jef (w := s.w) (C := s.g.C) h
    exact .data _ _ (by simpa using h1) fun i x v hx hv => h2 i x v hx (by simpa using hv)
  · rename_i f g a c
    simp at h
    obtain ⟨⟨rfl, rfl⟩, rfl⟩ := h
    exact .fn _ _ _ _ _ rfl rfl (fun i x v h => by simp at h) (fun i x v h => by simp at h)
  · simp at h; subst h; exact .tup _ _ rfl (fun i x v h => by simp at h)
  · cases h
def JQ (s : Sn) (tmps : Array Value) (env : List (Nat × AV)) : Prop := ∀ n x, lk n env = some x → ∃ v, tmps[n]? = some v ∧ Jr s x v
theorem JQ.mono {s0 s : Sn} (hi : Inv s0) (t : JE s0 s) {tmps env} (h : JQ s0 tmps env) : JQ s tmps env :=
  fun n x hx => let ⟨v, h1, h2⟩ := h n x hx; ⟨v, h1, h2.mono hi t⟩
section
variable {P : Program} {s : Sn} {a : Act} {env : List (Nat × AV)}
theorem JI (he : JQ s a.tmps env) {x : Opd} {y : Operand} {v : AV} (h : (ev x).run ⟨env, s.σ⟩ = some v) (hc : J0J x y = true) : Jr s v (a.eval y) := by
  cases x with
  | t n =>
    cases y <;> simp [J0J] at hc
    subst hc
    simp only [ev, RM.run] at h
    split at h
    · rename_i u hu
      injection h with h; subst h
      obtain ⟨w, h1, h2⟩ := he _ _ hu
      simpa [Act.eval, Array.getD_eq_getD_getElem?, h1] using h2
    · cases h
  | c z =>
    simp only [ev, RM.run] at h
    injection h with h; subst h
    cases y with
    | const u => exact JuM (v := u) (by simpa [J0J] using hc)
    | func g =>
      cases z <;> simp [J0J] at hc
      rename_i f first caps
      cases first <;> cases caps <;> simp [J0J] at hc
      subst hc
      exact .fn _ _ _ _ _ rfl rfl (fun i x v h => by simp at h) (fun i x v h => by simp at h)
    | tmp n => simp [J0J] at hc
    | global n => simp [J0J] at hc
theorem JbH (he : JQ s a.tmps env) : ∀ {xs : List Opd} {ys : List Operand} {vs : List AV}, (evs xs).run ⟨env, s.σ⟩ = some vs → J6L xs ys = true →
    vs.length = ys.length ∧ ∀ (i : Nat) x v, vs[i]? = some x → (ys.map a.eval)[i]? = some v → Jr s x v
  | [], [], vs, h, _ => by
    simp only [evs, RM.run] at h; injection h with h; subst h
    exact ⟨rfl, fun i x v h => by simp at h⟩
  | x :: xs, y :: ys, vs, h, hc => by
    simp only [J6L, Bool.and_eq_true] at hc
    simp only [evs] at h
    obtain ⟨u, h1, h⟩ := bind_some h
    obtain ⟨us, h2, h⟩ := bind_some h
    simp only [RM.run] at h; injection h with h; subst h
    obtain ⟨l, r⟩ := JbH he h2 hc.2
    refine ⟨by simp [l], fun i z v hz hv => ?_⟩
    cases i with
    | zero => simp at hz hv; subst hz hv; exact JI he h1 hc.1
    | succ i => simp at hz hv; exact r i z v hz (by simpa using hv)
  | [], _ :: _, _, _, hc => by simp [J6L] at hc
  | _ :: _, [], _, _, hc => by simp [J6L] at hc
def J0H (P : Program) (o : Oper) (a : Act) (s : Sn) (e : Eff) : Prop :=
  ∀ (next : Act → World → Prop) (Q : Exit → Act → World → Prop),
    (∀ v w' g', Inv ⟨upd e.ws s.σ, g', w'⟩ → JE s ⟨upd e.ws s.σ, g', w'⟩ → Jr ⟨upd e.ws s.σ, g', w'⟩ e.val v → next (a.put o.dst v) w') →
    o.wp P a s.w next Q
theorem J23 {o : Oper} {e : Eff} {v : Value} {w' : World} {g' : Gh} (hr : (execOp a.eval o).run P s.w = .ok (.value v) w')
    (hi : Inv ⟨upd e.ws s.σ, g', w'⟩) (t : JE s ⟨upd e.ws s.σ, g', w'⟩) (hv : Jr ⟨upd e.ws s.σ, g', w'⟩ e.val v) : J0H P o a s e := by
  intro next Q h
  simp only [Oper.wp, hr, Oper.upon]
  exact h v w' g' hi t hv
theorem Js {o : Oper} {x : AV} {v : Value} (hi : Inv s) (hr : (execOp a.eval o).run P s.w = .ok (.value v) s.w) (hv : Jr s x v) : J0H P o a s ⟨x, []⟩ :=
  J23 (e := ⟨x, []⟩) (g' := s.g) hr hi (.refl s) hv
theorem Jfz {t : TypeId} {i : TypeInfo} (h : P.info? t = some i) (w : World) : (typeInfo t).run P w = .ok i w := by
  simp [typeInfo, h]
theorem J2U {t : TypeId} {n : Nat} (h : szT P t = some n) (w : World) : (sizeOf t).run P w = .ok n w := by
  unfold szT at h
  cases hi : P.info? t with
  | none => rw [hi] at h; cases h
  | some i => rw [hi] at h; simp at h; simp [sizeOf, Jfz hi, h]
theorem JbJ {t : TypeId} {b : Bool} (h : agT P t = some b) (w : World) : (isAgg t).run P w = .ok b w := by
  unfold agT at h
  cases hu : P.underlying t with
  | none => rw [hu] at h; cases h
  | some d =>
    rw [hu] at h; simp at h
    simp only [isAgg, Sem.run_bind, run_underlying hu, Result.andThen_ok]
    subst h
    cases d <;> rfl
theorem J1Q {t e : TypeId} (h : elT P t = some e) : P.underlying t = some (.slice e) := by
  unfold elT at h
  split at h
  · injection h with h; subst h; assumption
  · cases h
theorem J7p {t : TypeId} (h : J71 P t = true) : P.underlying t = some .string := by
  unfold J71 at h; split at h
  · assumption
  · cases h
theorem Jnq {t : TypeId} (h : Jpj P t = true) : P.underlying t = some (.int .u8) := by
  unfold Jpj at h; split at h
  · assumption
  · cases h
theorem JnN {t : TypeId} (h : JjN P t = true) : P.underlying t = some .bool := by
  unfold JjN at h; split at h
  · assumption
  · cases h
theorem Jqk {t : TypeId} (h : Jpo P t = true) : ∃ k, P.underlying t = some (.int k) := by
  unfold Jpo at h; split at h
  · exact ⟨_, by assumption⟩
  · cases h
theorem Jpi {t : TypeId} {k : IntKind} (h : JmG P k t = true) : P.underlying t = some (.int k) := by
  unfold JmG at h; split at h
  · rename_i k' hk
    have : k = k' := by simpa using h
    subst this; exact hk
  · cases h
theorem Ji6 {t e : TypeId} {n : Nat} (h : arT P t = some (n, e)) : P.underlying t = some (.array n e) := by
  unfold arT at h; split at h
  · simp at h; obtain ⟨rfl, rfl⟩ := h; assumption
  · cases h
theorem JnA {t : TypeId} {fs : Array Field} (h : flT P t = some fs) : P.underlying t = some (.struct fs) := by
  unfold flT at h; split at h
  · simp at h; subst h; assumption
  · cases h
theorem J4B {x k n} (h : Jr s (.p (.i k n)) x) : x = .int k n := by cases h with | p _ _ h => cases h; rfl
theorem JiG {x n} (h : Jr s (.p (.b n)) x) : x = .bool n := by cases h with | p _ _ h => cases h; rfl
theorem Ja4 {x l} (h : Jr s (.p (.s l)) x) : x = .string ⟨l.toArray⟩ := by cases h with | p _ _ h => cases h; rfl
theorem Ju3 {x} (h : Jr s (.p .np) x) : x = .pointer none := by cases h with | p _ _ h => cases h; rfl
theorem Juy {x} (h : Jr s (.p .nf) x) : x = .nilFunc := by cases h with | p _ _ h => cases h; rfl
theorem J6b (k n) : Jr s (.p (.i k n)) (.int k n) := .p _ _ (.i _ _)
theorem J6e (n) : Jr s (.p (.b n)) (.bool n) := .p _ _ (.b _)
theorem Jg9 (l) : Jr s (.p (.s l)) (.string ⟨l.toArray⟩) := .p _ _ (.s _)
theorem Jkx (l : List UInt8) : ByteArray.toList ⟨l.toArray⟩ = l := by rw [ByteArray.toList_eq]
theorem J8G (l : List UInt8) : ByteArray.size ⟨l.toArray⟩ = l.length := by simp [ByteArray.size]
theorem Jl5 (l m : List UInt8) : (⟨l.toArray⟩ : ByteArray) ++ ⟨m.toArray⟩ = ⟨(l ++ m).toArray⟩ := by
  apply ByteArray.ext
  rw [ByteArray.data_append]
  simp
theorem Jok {op : BinOp} {k : IntKind} {x y : Int} {t : TypeId} {r : PV} (hns : op ≠ .shl) (hnr : op ≠ .shr) (h : J8a op k x y = some r) (w : World) :
    ∃ v, (binOp op t (.int k x) (.int k y)).run P w = .ok v w ∧ JJ s.w s.g.C r v := by
  cases op <;> simp only [J8a] at h
  case add => injection h with h; subst h; exact ⟨_, by simp [binOp, Op.intArith], .i _ _⟩
  case sub => injection h with h; subst h; exact ⟨_, by simp [binOp, Op.intArith], .i _ _⟩
  case mul => injection h with h; subst h; exact ⟨_, by simp [binOp, Op.intArith], .i _ _⟩
  case quo => split at h
              · cases h
              · rename_i hy; injection h with h; subst h; exact ⟨_, by simp [binOp, Op.intDiv, hy], .i _ _⟩
  case rem => split at h
              · cases h
              · rename_i hy; injection h with h; subst h; exact ⟨_, by simp [binOp, Op.intDiv, hy], .i _ _⟩
  case and => injection h with h; subst h; exact ⟨_, by simp [binOp, Op.intBits], .i _ _⟩
  case or => injection h with h; subst h; exact ⟨_, by simp [binOp, Op.intBits], .i _ _⟩
  case xor => injection h with h; subst h; exact ⟨_, by simp [binOp, Op.intBits], .i _ _⟩
  case eql => injection h with h; subst h; exact ⟨_, by simp [binOp, Op.intCmp], .b _⟩
  case neq => injection h with h; subst h; exact ⟨_, by simp [binOp, Op.intCmp], .b _⟩
  case lss => injection h with h; subst h; exact ⟨_, by simp [binOp, Op.intCmp], .b _⟩
  case leq => injection h with h; subst h; exact ⟨_, by simp [binOp, Op.intCmp], .b _⟩
  case gtr => injection h with h; subst h; exact ⟨_, by simp [binOp, Op.intCmp], .b _⟩
  case geq => injection h with h; subst h; exact ⟨_, by simp [binOp, Op.intCmp], .b _⟩
  all_goals simp_all
theorem JeP {op : BinOp} {k k' : IntKind} {x y : Int} {t : TypeId} {r : PV} (hs : op = .shl ∨ op = .shr) (h : JbY op k x y = some r) (w : World) :
    ∃ v, (binOp op t (.int k x) (.int k' y)).run P w = .ok v w ∧ JJ s.w s.g.C r v := by
  unfold JbY at h
  split at h
  · cases h
  · rename_i hy
    rcases hs with rfl | rfl
    · injection h with h; subst h; exact ⟨_, by simp [binOp, Op.shift, hy], .i _ _⟩
    · injection h with h; subst h; exact ⟨_, by simp [binOp, Op.shift, hy], .i _ _⟩
theorem Jol {op : BinOp} {x y : List UInt8} {t : TypeId} {r : PV} (h : JmY op x y = some r) (w : World) :
    ∃ v, (binOp op t (.string ⟨x.toArray⟩) (.string ⟨y.toArray⟩)).run P w = .ok v w ∧ JJ s.w s.g.C r v := by
  cases op <;> simp only [JmY] at h
  case add =>
    split at h
    · rename_i hl
      injection h with h; subst h
      refine ⟨.string ⟨(x ++ y).toArray⟩, ?_, .s _⟩
      have h1 : ¬ (((ByteArray.size ⟨x.toArray⟩ + ByteArray.size ⟨y.toArray⟩ : Nat) : Int) > IntKind.i64.max) := by
        rw [J8G, J8G]
        show ¬ (_ > (9223372036854775807 : Int))
        omega
      simp only [binOp, Op.stringOp]
      rw [if_neg h1, Jl5]
      rfl
    · cases h
  case eql => injection h with h; subst h; exact ⟨.bool (x == y), by simp [binOp, Op.stringOp], .b _⟩
  case neq => injection h with h; subst h; exact ⟨.bool (!(x == y)), by simp [binOp, Op.stringOp], .b _⟩
  case lss => injection h with h; subst h; exact ⟨.bool (Op.bytesLess x y), by simp [binOp, Op.stringOp], .b _⟩
  case leq => injection h with h; subst h; exact ⟨.bool (Op.bytesLess x y || x == y), by simp [binOp, Op.stringOp], .b _⟩
  case gtr => injection h with h; subst h; exact ⟨.bool (!(Op.bytesLess x y || x == y)), by simp [binOp, Op.stringOp], .b _⟩
  case geq => injection h with h; subst h; exact ⟨.bool (!Op.bytesLess x y), by simp [binOp, Op.stringOp], .b _⟩
  all_goals cases h
end
end Go.Am
end
section
namespace Go.Am
section
variable {P : Program} {F : Orc} {s : Sn} {a : Act} {env : List (Nat × AV)} {o : Oper} {new : Nat} {e : Eff}
theorem Jw9 (hi : Inv s) (he : JQ s a.tmps env) {x} (h : (opR F (.mv x) new).run ⟨env, s.σ⟩ = some e) (hc : JA P (.mv x) o.op = true) : J0H P o a s e := by
  simp only [opR] at h
  obtain ⟨v, h1, h⟩ := bind_some h
  simp only [RM.run] at h; injection h with h; subst h
  unfold JA at hc
  simp only at hc
  split at hc
  · rename_i y hop
    exact Js hi (by simp only [execOp, hop]; rfl) (JI he h1 hc)
  · rename_i y hop
    exact Js hi (by simp only [execOp, hop]; rfl) (JI he h1 hc)
  · cases hc
theorem JuN (hi : Inv s) (he : JQ s a.tmps env) {c x y} (h : (opR F (.pick c x y) new).run ⟨env, s.σ⟩ = some e) (hc : JA P (.pick c x y) o.op = true) : J0H P o a s e := by
  simp only [opR] at h
  obtain ⟨v, h1, h⟩ := bind_some h
  unfold JA at hc
  simp only at hc
  split at hc
  · rename_i c' x' y' hop
    simp only [Bool.and_eq_true] at hc
    split at h
    · rename_i b
      have hb := JiG (JI he h1 hc.1.1)
      split at h
      · rename_i hbt
        obtain ⟨u, h2, h⟩ := bind_some h
        simp only [RM.run] at h; injection h with h; subst h
        exact Js hi (v := a.eval x') (by simp [execOp, hop, hb, hbt, asBool]) (JI he h2 hc.1.2)
      · rename_i hbt
        obtain ⟨u, h2, h⟩ := bind_some h
        simp only [RM.run] at h; injection h with h; subst h
        have hbt : b = false := by simpa using hbt
        exact Js hi (v := a.eval y') (by simp [execOp, hop, hb, hbt, asBool]) (JI he h2 hc.2)
    · simp only [RM.run] at h; cases h
  · cases hc
theorem JqS (hi : Inv s) (he : JQ s a.tmps env) {x} (h : (opR F (.nilchk x) new).run ⟨env, s.σ⟩ = some e) (hc : JA P (.nilchk x) o.op = true) : J0H P o a s e := by
  simp only [opR] at h
  obtain ⟨v, h1, h⟩ := bind_some h
  unfold JA at hc
  simp only at hc
  split at hc
  · rename_i y hop
    have hr := JI he h1 hc
    split at h <;> (simp only [RM.run] at h; try cases h)
    · refine Js hi (v := a.eval y) ?_ hr
      generalize hu : a.eval y = u at hr
      cases hr
      simp [execOp, hop, hu]
    · refine Js hi (v := a.eval y) ?_ hr
      generalize hu : a.eval y = u at hr
      cases hr
      simp [execOp, hop, hu]
    · refine Js hi (v := a.eval y) ?_ hr
      generalize hu : a.eval y = u at hr
      cases hr with
      | ep _ _ _ _ _ _ _ _ h0 =>
        obtain ⟨r, o', rfl⟩ := h0
        simp [execOp, hop, hu]
    · refine Js hi (v := a.eval y) ?_ hr
      generalize hu : a.eval y = u at hr
      cases hr
      simp [execOp, hop, hu]
  · cases hc
theorem J8z {op : BinOp} {t : TypeId} {x y : Operand} {u v : Value} (h : (∀ c, u ≠ .agg c) ∧ u ≠ .nilIface) (w : World) : (eqGuard op t x y u v).run P w = .ok () w := by
  unfold eqGuard
  cases op <;> simp
  all_goals (cases u <;> simp_all)
theorem JmJ (hi : Inv s) (he : JQ s a.tmps env) {op x y} (h : (opR F (.bin op .plain x y) new).run ⟨env, s.σ⟩ = some e) (hc : JA P (.bin op .plain x y) o.op = true) : J0H P o a s e := by
  simp only [opR] at h
  obtain ⟨u, h1, h⟩ := bind_some h
  obtain ⟨v, h2, h⟩ := bind_some h
  obtain ⟨r, h3, rfl⟩ := J1N h
  unfold JA at hc
  simp only at hc
  split at hc
  · rename_i op' t x' y' ty hop
    simp only [Bool.and_eq_true, beq_iff_eq] at hc
    obtain ⟨⟨rfl, hx⟩, hy⟩ := hc
    have rx := JI he h1 hx
    have ry := JI he h2 hy
    have hex : ∀ {z : Value}, (∀ c, a.eval x' ≠ .agg c) ∧ a.eval x' ≠ .nilIface → (binOp op t (a.eval x') (a.eval y')).run P s.w = .ok z s.w → (execOp a.eval o).run P s.w = .ok (.value z) s.w := by
      intro z hg hz
      simp [execOp, hop, J8z hg, hz]
    simp only [J0m] at h3
    split at h3
    · rename_i xk p yk q
      rw [J4B rx, J4B ry] at hex
      split at h3
      · obtain ⟨z, hz, rfl⟩ := Option.map_eq_some_iff.1 h3
        obtain ⟨v, hv, hr⟩ := JeP (s := s) (P := P) (t := t) (.inl rfl) hz s.w
        exact Js hi (hex (by simp) hv) (.p _ _ hr)
      · obtain ⟨z, hz, rfl⟩ := Option.map_eq_some_iff.1 h3
        obtain ⟨v, hv, hr⟩ := JeP (s := s) (P := P) (t := t) (.inr rfl) hz s.w
        exact Js hi (hex (by simp) hv) (.p _ _ hr)
      · rename_i n1 n2
        split at h3
        · rename_i hk; subst hk
          obtain ⟨z, hz, rfl⟩ := Option.map_eq_some_iff.1 h3
          obtain ⟨v, hv, hr⟩ := Jok (s := s) (P := P) (t := t) (fun e => n1 e) (fun e => n2 e) hz s.w
          exact Js hi (hex (by simp) hv) (.p _ _ hr)
        · cases h3
    · rw [Ja4 rx, Ja4 ry] at hex
      obtain ⟨z, hz, rfl⟩ := Option.map_eq_some_iff.1 h3
      obtain ⟨v, hv, hr⟩ := Jol (s := s) (P := P) (t := t) hz s.w
      exact Js hi (hex (by simp) hv) (.p _ _ hr)
    · cases h3
  · cases hc
theorem JnL (hi : Inv s) (he : JQ s a.tmps env) {op x y} (h : (opR F (.bin op .bool x y) new).run ⟨env, s.σ⟩ = some e) (hc : JA P (.bin op .bool x y) o.op = true) : J0H P o a s e := by
  simp only [opR] at h
  obtain ⟨u, h1, h'⟩ := bind_some h
  obtain ⟨v, h2, h''⟩ := bind_some h'
  obtain ⟨r, h3, rfl⟩ := J1N h''
  clear h h' h''
  unfold JA at hc
  simp only at hc
  split at hc
  · rename_i op' t x' y' ty hop
    simp only [Bool.and_eq_true, beq_iff_eq] at hc
    obtain ⟨⟨rfl, hx⟩, hy, ht⟩ := hc
    have rx := JI he h1 hx
    have ry := JI he h2 hy
    have hb := JnN ht
    simp only [J0m] at h3
    split at h3
    · rename_i _ _ p q
      have ex := JiG rx
      have ey := JiG ry
      cases op <;> simp only [J8n] at h3 <;> first | (injection h3 with h3; subst h3) | cases h3
      · exact Js hi (v := .bool (p == q)) (by simp [execOp, hop, ex, ey, eqGuard, binOp, run_equal_bool, hb]) (J6e _)
      · exact Js hi (v := .bool (!(p == q))) (by simp [execOp, hop, ex, ey, eqGuard, binOp, run_equal_bool, hb]) (J6e _)
    · cases h3
  · cases hc
theorem JbG {op : BinOp} {t : TypeId} {u v : Value} {b : Bool} (ho : op = .eql ∨ op = .neq) {w : World} (h : (Op.equal t u v).run P w = .ok b w)
    (hu : (∃ x n c, u = .slice x n c) ∨ (∃ p, u = .pointer p ∧ v = .pointer none) ∨ u = .nilFunc ∨ (∃ f y c, u = .func f y c)) :
    (binOp op t u v).run P w = .ok (.bool (if op = .eql then b else !b)) w := by
  rcases ho with rfl | rfl
  · have : binOp .eql t u v = (do pure (.bool (← Op.equal t u v))) := by
      rcases hu with ⟨x, n, c, rfl⟩ | ⟨p, rfl, rfl⟩ | rfl | ⟨f, y, c, rfl⟩ <;> simp [binOp]
    rw [this]; simp [h]
  · have : binOp .neq t u v = (do pure (.bool (!(← Op.equal t u v)))) := by
      rcases hu with ⟨x, n, c, rfl⟩ | ⟨p, rfl, rfl⟩ | rfl | ⟨f, y, c, rfl⟩ <;> simp [binOp]
    rw [this]; simp [h]
theorem J6C {op : BinOp} {b : Bool} {r : AV} (h : J8n op (some b) = some r) : (op = .eql ∨ op = .neq) ∧ r = .p (.b (if op = .eql then b else !b)) := by
  cases op <;> simp [J8n] at h
  · exact ⟨.inl rfl, by simp [← h]⟩
  · exact ⟨.inr rfl, by simp [← h]⟩
theorem Jl3 {op : BinOp} {r : AV} (h : JmZ op = some r) : (op = .eql ∨ op = .neq) ∧ r = .unk := by
  cases op <;> simp [JmZ] at h
  · exact ⟨.inl rfl, h.symm⟩
  · exact ⟨.inr rfl, h.symm⟩
theorem JnS (hi : Inv s) (he : JQ s a.tmps env) {op x y} (h : (opR F (.bin op .nils x y) new).run ⟨env, s.σ⟩ = some e) (hc : JA P (.bin op .nils x y) o.op = true) : J0H P o a s e := by
  simp only [opR] at h
  obtain ⟨u, h1, h'⟩ := bind_some h
  obtain ⟨v, h2, h''⟩ := bind_some h'
  obtain ⟨r, h3, rfl⟩ := J1N h''
  clear h h' h'' h2
  unfold JA at hc
  simp only at hc
  split at hc
  · rename_i op' t x' y' ty hop
    simp only [Bool.and_eq_true, beq_iff_eq] at hc
    obtain ⟨⟨rfl, hx⟩, ht⟩ := hc
    have rx := JI he h1 hx
    clear h1
    have hy : y' = .const (.slice none 0 0) ∧ ∃ el, P.underlying t = some (.slice el) := by
      unfold Jvx at ht
      split at ht
      · obtain ⟨el, hel⟩ := Option.isSome_iff_exists.1 ht
        exact ⟨rfl, el, J1Q hel⟩
      · cases ht
    obtain ⟨rfl, el, hu⟩ := hy
    have go : ∀ (z : Option Addr) (n c : Nat), a.eval x' = .slice z n c → (op = .eql ∨ op = .neq) →
        (execOp a.eval o).run P s.w = .ok (.value (.bool (if op = .eql then z.isNone else !z.isNone))) s.w := by
      intro z n c hz ho
      have h1 := JbG (P := P) (t := t) ho (run_equal_slice_nil s.w t el z n c hu) (.inl ⟨z, n, c, rfl⟩)
      simp only [execOp, hop, hz]
      simp only [Sem.run_bind, J8z (P := P) (u := .slice z n c) (by simp), Act.eval, h1, Result.andThen_ok, Sem.run_pure]
    simp only [J0m] at h3
    split at h3
    · rename_i esz rows
      cases rx with
      | p _ _ rp =>
        split at h3
        · obtain ⟨ho, rfl⟩ := Jl3 h3
          generalize hz : a.eval x' = z at rp
          cases rp with
          | sl0 _ ad cap => exact Js hi (go _ _ _ hz ho) (.unk _)
          | sl _ _ r o' cap vals => exact Js hi (go _ _ _ hz ho) (.unk _)
        · obtain ⟨ho, rfl⟩ := J6C h3
          generalize hz : a.eval x' = z at rp
          cases rp with
          | sl _ _ r o' cap vals => exact Js hi (go _ _ _ hz ho) (J6e _)
    · rename_i b i n
      generalize hz : a.eval x' = z at rx
      cases rx with
      | slr _ _ _ _ wm esz rows h0 =>
        obtain ⟨ad, cap, rfl, hn⟩ := h0
        split at h3
        · obtain ⟨ho, rfl⟩ := Jl3 h3
          exact Js hi (go _ _ _ hz ho) (.unk _)
        · rename_i hn0
          obtain ⟨ho, rfl⟩ := J6C h3
          have : ad.isNone = false := by
            cases ad with
            | none => exact absurd (hn.resolve_left hn0) (by simp)
            | some _ => rfl
          have h4 := go _ _ _ hz ho
          rw [this] at h4
          exact Js hi h4 (J6e _)
    · cases h3
  · cases hc
theorem JnI (hi : Inv s) (he : JQ s a.tmps env) {op x y} (h : (opR F (.bin op .nilp x y) new).run ⟨env, s.σ⟩ = some e) (hc : JA P (.bin op .nilp x y) o.op = true) : J0H P o a s e := by
  simp only [opR] at h
  obtain ⟨u, h1, h'⟩ := bind_some h
  obtain ⟨v, h2, h''⟩ := bind_some h'
  obtain ⟨r, h3, rfl⟩ := J1N h''
  clear h h' h'' h2
  unfold JA at hc
  simp only at hc
  split at hc
  · rename_i op' t x' y' ty hop
    simp only [Bool.and_eq_true, beq_iff_eq] at hc
    obtain ⟨⟨rfl, hx⟩, ht⟩ := hc
    have rx := JI he h1 hx
    clear h1
    have hy : y' = .const (.pointer none) ∧ ∃ el, P.underlying t = some (.pointer el) := by
      unfold Jtg at ht
      split at ht
      · split at ht
        · exact ⟨rfl, _, by assumption⟩
        · cases ht
      · cases ht
    obtain ⟨rfl, el, hu⟩ := hy
    have go : ∀ (z : Option Addr), a.eval x' = .pointer z → (op = .eql ∨ op = .neq) →
        (execOp a.eval o).run P s.w = .ok (.value (.bool (if op = .eql then z.isNone else !z.isNone))) s.w := by
      intro z hz ho
      have : P.pointee t = el := by simp [Program.pointee, hu]
      have h1 := JbG (P := P) (t := t) ho (run_equal_pointer_nil s.w t z (by rw [this]; exact hu)) (.inr (.inl ⟨z, rfl, rfl⟩))
      simp only [execOp, hop, hz]
      simp only [Sem.run_bind, J8z (P := P) (u := .pointer z) (by simp), Act.eval, h1, Result.andThen_ok, Sem.run_pure]
    simp only [J0m] at h3
    generalize hz : a.eval x' = z at rx
    split at h3
    · obtain ⟨ho, rfl⟩ := J6C h3
      have := Ju3 rx; subst this
      exact Js hi (go _ hz ho) (J6e _)
    · obtain ⟨ho, rfl⟩ := J6C h3
      cases rx
      exact Js hi (go _ hz ho) (J6e _)
    · obtain ⟨ho, rfl⟩ := J6C h3
      cases rx
      exact Js hi (go _ hz ho) (J6e _)
    · obtain ⟨ho, rfl⟩ := J6C h3
      cases rx with
      | ep _ _ _ _ _ _ _ _ h0 =>
        obtain ⟨r, o', rfl⟩ := h0
        exact Js hi (go _ hz ho) (J6e _)
    · cases h3
  · cases hc
theorem JnU (hi : Inv s) (he : JQ s a.tmps env) {op x y} (h : (opR F (.bin op .nilf x y) new).run ⟨env, s.σ⟩ = some e) (hc : JA P (.bin op .nilf x y) o.op = true) : J0H P o a s e := by
  simp only [opR] at h
  obtain ⟨u, h1, h'⟩ := bind_some h
  obtain ⟨v, h2, h''⟩ := bind_some h'
  obtain ⟨r, h3, rfl⟩ := J1N h''
  clear h h' h'' h2
  unfold JA at hc
  simp only at hc
  split at hc
  · rename_i op' t x' y' ty hop
    simp only [Bool.and_eq_true, beq_iff_eq] at hc
    obtain ⟨⟨rfl, hx⟩, ht⟩ := hc
    have rx := JI he h1 hx
    clear h1
    have hy : y' = .const .nilFunc ∧ ∃ p r v, P.underlying t = some (.func p r v) := by
      unfold Jvk at ht
      split at ht
      · split at ht
        · exact ⟨rfl, _, _, _, by assumption⟩
        · cases ht
      · cases ht
    obtain ⟨rfl, p, rr, vv, hu⟩ := hy
    simp only [J0m] at h3
    generalize hz : a.eval x' = z at rx
    split at h3
    · obtain ⟨ho, rfl⟩ := J6C h3
      have := Juy rx; subst this
      have heq : (Op.equal t .nilFunc .nilFunc).run P s.w = .ok true s.w := by
        have : ∀ d, (Op.equalIn (d + 1) t .nilFunc .nilFunc).run P s.w = .ok true s.w := fun d => by simp [Op.equalIn, run_underlying hu]
        exact this 9999
      have h1 := JbG (P := P) (t := t) ho heq (.inr (.inr (.inl rfl)))
      refine Js hi ?_ (J6e _)
      simp only [execOp, hop, hz]
      simp only [Sem.run_bind, J8z (P := P) (u := .nilFunc) (by simp), Act.eval, h1, Result.andThen_ok, Sem.run_pure]
    · obtain ⟨ho, rfl⟩ := J6C h3
      cases rx
      rename_i f _ _ fs cs _ _ _ _
      have heq : (Op.equal t (.func (.func f) fs cs) .nilFunc).run P s.w = .ok false s.w := by
        have : ∀ d, (Op.equalIn (d + 1) t (.func (.func f) fs cs) .nilFunc).run P s.w = .ok false s.w := fun d => by simp [Op.equalIn, run_underlying hu]
        exact this 9999
      have h1 := JbG (P := P) (t := t) ho heq (.inr (.inr (.inr ⟨_, _, _, rfl⟩)))
      refine Js hi ?_ (J6e _)
      simp only [execOp, hop, hz]
      simp only [Sem.run_bind, J8z (P := P) (u := .func (.func f) fs cs) (by simp), Act.eval, h1, Result.andThen_ok, Sem.run_pure]
    · cases h3
  · cases hc
end
end Go.Am
end
section
namespace Go.Am
theorem J8o : ∀ {vs : List Value} {w : World} {r o : Nat} {c : Array Value} {e : TypeId} {fz : Nat × Nat}, w.heap[r]? = some (.cells c e fz) → o + vs.length ≤ c.size →
    Put r o vs w (w.setCells r o vs)
  | [], w, r, o, c, e, fz, h, hl => ⟨⟨c, e, fz, c, h, h, rfl, hl, fun j v hj => by simp at hj, fun _ _ => rfl⟩, fun _ _ => rfl, rfl, rfl, rfl⟩
  | v :: vs, w, r, o, c, e, fz, h, hl => by
    have hr := J0r h
    have hl' : o + 1 + vs.length ≤ c.size := by simp at hl; omega
    have h1 : (w.setCell ⟨r, o, none⟩ v).heap[r]? = some (.cells (c.setIfInBounds o v) e fz) := by
      simp [World.setCell, Array.getElem?_modify, h]
    obtain ⟨⟨c1, e1, fz1, c', p1, p2, p3, p4, p5, p6⟩, q1, q2, q3, q4⟩ := J8o (vs := vs) (o := o + 1) h1 (by simpa using hl')
    rw [h1] at p1; injection p1 with p1; injection p1 with a1 a2 a3; subst a1 a2 a3
    refine ⟨⟨c, e, fz, c', h, p2, by simpa using p3, hl, fun j u hj => ?_, fun k hk => ?_⟩, fun r' hne => ?_, ?_, q3, q4⟩
    · cases j with
      | zero =>
        simp at hj; subst hj
        rw [Nat.add_zero, p6 o (.inl (by omega))]
        have : o < c.size := by simp at hl; omega
        simp [this]
      | succ j =>
        have := p5 j u (by simpa using hj)
        rwa [show o + (j + 1) = o + 1 + j by omega]
    · rw [p6 k (by simp at hk; omega)]
      have : o ≠ k := by simp at hk; omega
      simp [Array.getElem?_setIfInBounds, this]
    · show ((w.setCell ⟨r, o, none⟩ v).setCells r (o + 1) vs).heap[r']? = _
      rw [q1 r' hne]
      simp [World.setCell, Array.getElem?_modify, Ne.symm hne]
    · show ((w.setCell ⟨r, o, none⟩ v).setCells r (o + 1) vs).heap.size = _
      rw [q2]; simp [World.setCell]
theorem JJ.one {w C x v} (h : JJ w C x v) : v.oneCell' = true := by cases h <;> rfl
theorem JJ.cells1 {w C x v} (h : JJ w C x v) : v.cells = #[v] := by cases h <;> rfl
section
variable {P : Program} {F : Orc} {s : Sn} {a : Act} {env : List (Nat × AV)} {o : Oper} {new : Nat} {e : Eff}
theorem Jw3 (hi : Inv s) (he : JQ s a.tmps env) {op x} (h : (opR F (.un op x) new).run ⟨env, s.σ⟩ = some e) (hc : JA P (.un op x) o.op = true) : J0H P o a s e := by
  simp only [opR] at h
  obtain ⟨u, h1, h'⟩ := bind_some h
  obtain ⟨r, h3, rfl⟩ := J1N h'
  clear h h'
  unfold JA at hc
  simp only at hc
  split at hc
  · rename_i op' t y hop
    simp only [Bool.and_eq_true, beq_iff_eq] at hc
    obtain ⟨rfl, hx⟩ := hc
    have rx := JI he h1 hx
    clear h1
    generalize hz : a.eval y = z at rx
    unfold unP at h3
    split at h3 <;> first | (injection h3 with h3; subst h3) | cases h3
    · rename_i k n
      have := J4B rx; subst this
      exact Js hi (v := .int k (k.wrap (0 - n))) (by simp [execOp, hop, hz, Op.unary, Op.intArith]) (J6b _ _)
    · rename_i k n
      have := J4B rx; subst this
      exact Js hi (v := .int k (k.wrap (BitVec.ofInt k.bits (if k.signed then -1 else k.max) ^^^ BitVec.ofInt k.bits n).toNat)) (by simp [execOp, hop, hz, Op.unary, Op.intBits]) (J6b _ _)
    · rename_i b
      have := JiG rx; subst this
      exact Js hi (v := .bool (!b)) (by simp [execOp, hop, hz, Op.unary]) (J6e _)
    · cases rx with
      | unk b => exact Js hi (v := .bool (!b)) (by simp [execOp, hop, hz, Op.unary]) (.unk _)
  · cases hc
theorem Jt4 (hi : Inv s) (he : JQ s a.tmps env) {off x} (h : (opR F (.faddr off x) new).run ⟨env, s.σ⟩ = some e) (hc : JA P (.faddr off x) o.op = true) : J0H P o a s e := by
  simp only [opR] at h
  obtain ⟨u, h1, h'⟩ := bind_some h
  obtain ⟨r, h3, rfl⟩ := J1N h'
  clear h h'
  unfold JA at hc
  simp only at hc
  split at hc
  · rename_i t y f hop
    simp only [Bool.and_eq_true] at hc
    obtain ⟨hx, ht⟩ := hc
    have rx := JI he h1 hx
    clear h1
    have hf : ∃ fs fl n, P.underlying t = some (.struct fs) ∧ fs[f]? = some fl ∧ fl.offset = off ∧ szT P fl.type = some n ∧ n ≠ 0 := by
      split at ht
      · rename_i fs hfs
        split at ht
        · rename_i fl hfl
          simp only [Bool.and_eq_true, beq_iff_eq] at ht
          obtain ⟨h4, h5⟩ := ht
          split at h5
          · rename_i n hn
            exact ⟨fs, fl, n, JnA hfs, hfl, h4, hn, by simpa using h5⟩
          · cases h5
        · cases ht
      · cases ht
    obtain ⟨fs, fl, n, hu, hfl, rfl, hn, hn0⟩ := hf
    have go : ∀ (r o' : Nat), a.eval y = .pointer (some ⟨r, o', none⟩) → (execOp a.eval o).run P s.w = .ok (.value (.pointer (some ⟨r, o' + fl.offset, none⟩))) s.w := by
      intro r o' hz
      have hadd : Addr.add ⟨r, o', none⟩ fl.offset = ⟨r, o' + fl.offset, none⟩ := by unfold Addr.add; split <;> simp_all
      simp only [execOp, hop, hz]
      simp [Instr.fieldAt, run_underlying hu, hfl, Instr.sureAddr, fieldPlace, J2U hn, hn0, hadd]
    generalize hz : a.eval y = z at rx
    unfold JaT at h3
    split at h3 <;> first | (injection h3 with h3; subst h3) | cases h3
    · cases rx with
      | ptr _ _ r o' m hb => exact Js hi (go _ _ hz) (by rw [Nat.add_assoc]; exact .ptr _ _ r o' m hb)
    · cases rx with
      | cp cs _ r o' vals p1 p2 => exact Js hi (go _ _ hz) (by rw [Nat.add_assoc]; exact .cp _ _ r o' vals p1 p2)
    · cases rx with
      | ep _ _ _ _ _ wm esz rows p0 p1 p2 p3 =>
        obtain ⟨r, o', rfl⟩ := p0
        refine Js hi (go _ _ hz) (.ep _ _ _ _ _ wm esz rows ⟨_, _, rfl⟩ p1 p2 fun e1 e2 => ?_)
        obtain ⟨r', m, hv⟩ := p3 e1 e2
        simp at hv
        obtain ⟨rfl, rfl⟩ := hv
        exact ⟨r, m, by rw [Nat.add_assoc]⟩
  · cases hc
theorem Jue (hi : Inv s) (he : JQ s a.tmps env) {x i} (h : (opR F (.extr x i) new).run ⟨env, s.σ⟩ = some e) (hc : JA P (.extr x i) o.op = true) : J0H P o a s e := by
  simp only [opR] at h
  obtain ⟨u, h1, h'⟩ := bind_some h
  obtain ⟨r, h3, rfl⟩ := J1N h'
  clear h h'
  unfold JA at hc
  simp only at hc
  split at hc
  · rename_i y j hop
    simp only [Bool.and_eq_true, beq_iff_eq] at hc
    obtain ⟨hx, rfl⟩ := hc
    have rx := JI he h1 hx
    generalize hz : a.eval y = z at rx
    unfold Jg3 at h3
    split at h3
    · cases rx with
      | tup cs vs p1 p2 =>
        have hlt := Jb h3
        have hv : vs[i]? = some vs[i] := by simp
        exact Js hi (v := vs[i]) (by simp [execOp, hop, hz, Instr.extract, hv]) (p2 i r _ h3 hv)
    · cases h3
  · cases hc
theorem Jtx (hi : Inv s) (he : JQ s a.tmps env) {f first caps} (h : (opR F (.mkfn f first caps) new).run ⟨env, s.σ⟩ = some e) (hc : JA P (.mkfn f first caps) o.op = true) : J0H P o a s e := by
  simp only [opR] at h
  obtain ⟨u, h1, h'⟩ := bind_some h
  obtain ⟨v, h2, h''⟩ := bind_some h'
  simp only [RM.run] at h''; injection h'' with h''; subst h''
  clear h h'
  unfold JA at hc
  simp only at hc
  split at hc
  · rename_i g first' caps' hop
    simp only [Bool.and_eq_true, beq_iff_eq] at hc
    obtain ⟨⟨rfl, hf⟩, hcp⟩ := hc
    obtain ⟨l1, r1⟩ := JbH he h1 hf
    obtain ⟨l2, r2⟩ := JbH he h2 hcp
    refine Js hi (v := .func (.func f) (first'.map a.eval) (caps'.map a.eval)) (by simp [execOp, hop, Instr.makeFunc]) (.fn _ _ _ _ _ (by simpa using l1) (by simpa using l2) (fun i x v hx hv => r1 i x v hx ?_) (fun i x v hx hv => r2 i x v hx ?_))
    · simpa using hv
    · simpa using hv
  · cases hc
theorem Jwk (hi : Inv s) (he : JQ s a.tmps env) {mx x y} (h : (opR F (.mm mx x y) new).run ⟨env, s.σ⟩ = some e) (hc : JA P (.mm mx x y) o.op = true) : J0H P o a s e := by
  simp only [opR] at h
  obtain ⟨u, h1, h'⟩ := bind_some h
  obtain ⟨v, h2, h''⟩ := bind_some h'
  obtain ⟨r, h3, rfl⟩ := J1N h''
  clear h h' h''
  unfold JA at hc
  simp only at hc
  split at hc
  · rename_i c hop
    split at hc
    · rename_i b hcal
      simp only [Bool.and_eq_true, beq_iff_eq] at hc
      obtain ⟨hb, hc⟩ := hc
      split at hc
      · rename_i x' y' hargs
        simp only [Bool.and_eq_true] at hc
        have rx := JI he h1 hc.1
        have ry := JI he h2 hc.2
        have hm : c.args.map a.eval = #[a.eval x', a.eval y'] := by
          apply Array.ext'
          simp [hargs]
        unfold mmP at h3
        split at h3
        · rename_i k p k' q
          injection h3 with h3; subst h3
          have ex := J4B rx
          have ey := J4B ry
          cases mx
          · simp only [Bool.false_eq_true, if_false] at hb ⊢
            subst hb
            refine Js hi (v := .int k (if q < p then q else p)) ?_ (J6b _ _)
            simp [execOp, hop, resolve, hcal, hm, ex, ey, invoke, builtin, Builtin.min_, Builtin.min2]
          · simp only [if_true] at hb ⊢
            subst hb
            refine Js hi (v := .int k (if q > p then q else p)) ?_ (J6b _ _)
            simp [execOp, hop, resolve, hcal, hm, ex, ey, invoke, builtin, Builtin.max_, Builtin.max2]
        · cases h3
      · cases hc
    · cases hc
  · cases hc
theorem Jvr (hi : Inv s) (he : JQ s a.tmps env) {str x} (h : (opR F (.len str x) new).run ⟨env, s.σ⟩ = some e) (hc : JA P (.len str x) o.op = true) : J0H P o a s e := by
  simp only [opR] at h
  obtain ⟨u, h1, h'⟩ := bind_some h
  obtain ⟨r, h3, rfl⟩ := J1N h'
  clear h h'
  unfold JA at hc
  simp only at hc
  split at hc
  · rename_i c hop
    split at hc
    · rename_i hcal
      split at hc
      · rename_i y t hargs htys
        simp only [Bool.and_eq_true] at hc
        obtain ⟨hx, ht⟩ := hc
        have rx := JI he h1 hx
        have hm : c.args.map a.eval = #[a.eval y] := by apply Array.ext'; simp [hargs]
        have ht0 : c.argTypes[0]? = some t := by rw [← Array.getElem?_toList, htys]; rfl
        generalize hz : a.eval y = z at rx
        have hs : ∀ l : List UInt8, z = .string ⟨l.toArray⟩ → J71 P t = true → (execOp a.eval o).run P s.w = .ok (.value (.int .i64 l.length)) s.w := by
          intro l hl hst
          have := J7p hst
          simp [execOp, hop, resolve, hcal, hm, hz, hl, invoke, builtin, Builtin.len_, ht0, run_underlying this, goInt, J8G]
        have hsl : ∀ ad n cp, z = .slice ad n cp → (elT P t).isSome = true → (execOp a.eval o).run P s.w = .ok (.value (.int .i64 n)) s.w := by
          intro ad n cp hl hst
          obtain ⟨el, hel⟩ := Option.isSome_iff_exists.1 hst
          have := J1Q hel
          simp [execOp, hop, resolve, hcal, hm, hz, hl, invoke, builtin, Builtin.len_, ht0, run_underlying this, goInt]
        unfold Jfh at h3
        split at h3 <;> first | (injection h3 with h3; subst h3) | cases h3
        · exact Js hi (hs _ (Ja4 rx) (by simpa using ht)) (J6b _ _)
        · cases rx with
          | p _ _ rp =>
            cases rp with
            | sl0 _ ad cap => exact Js hi (hsl _ _ _ rfl (by simpa using ht)) (J6b _ _)
            | sl _ _ r o' cap vals => exact Js hi (hsl _ _ _ rfl (by simpa using ht)) (J6b _ _)
        · cases rx with
          | slr _ _ _ _ wm esz rows h0 =>
            obtain ⟨ad, cap, hv, _⟩ := h0
            exact Js hi (hsl _ _ _ hv (by simpa using ht)) (J6b _ _)
      · cases hc
    · cases hc
  · cases hc
end
end Go.Am
end
section
namespace Go.Am
section
variable {P : Program} {F : Orc} {s : Sn} {a : Act} {env : List (Nat × AV)} {o : Oper} {new : Nat} {e : Eff}
theorem J6V.of_p {s : Sn} {esz rows v} (h : Jr s (.p (.sl esz rows)) v) : J6V s esz rows v := by
  cases h with | p _ _ h => exact .of_sl h
theorem Jik (hi : Inv s) {esz : Nat} {x : AV} {rows : List (List PV)} {v : Value} (h : (JS esz x).run ⟨env, s.σ⟩ = some rows) (hr : Jr s x v) :
    (∃ l, x = .p (.s l) ∧ esz = 1 ∧ rows = l.map J49 ∧ v = .string ⟨l.toArray⟩) ∨ J6V s esz rows v := by
  unfold JS at h
  split at h
  · split at h
    · rename_i he; subst he
      simp only [RM.run] at h; injection h with h; subst h
      exact .inr (.of_p hr)
    · cases h
  · split at h
    · rename_i l he
      simp only [RM.run] at h; injection h with h; subst h
      exact .inl ⟨l, rfl, he, rfl, Ja4 hr⟩
    · cases h
  · simp only [RM.run] at h
    split at h
    · rename_i blk hb
      split at h
      · split at h
        · rename_i hc
          obtain ⟨rfl, hc⟩ := hc
          simp only [RM.run] at h; injection h with h; subst h
          exact .inr (.of_slr hi hr hb hc)
        · cases h
      · cases h
    · cases h
  · cases h
theorem JhZ {α : Type} {esz : Nat} : ∀ {rows : List (List α)}, (∀ row ∈ rows, row.length = esz) → ∀ {k : Nat} {x : α}, rows.flatten[k]? = some x →
    ∃ i j row, k = i * esz + j ∧ rows[i]? = some row ∧ row[j]? = some x ∧ j < esz
  | [], _, k, x, h => by simp at h
  | r :: rows, hl, k, x, h => by
    simp only [List.flatten_cons] at h
    have hr : r.length = esz := hl r (by simp)
    rcases List.getElem?_append (l₁ := r) (l₂ := rows.flatten) (i := k) ▸ h with h'
    split at h'
    · exact ⟨0, k, r, by simp, rfl, h', by omega⟩
    · obtain ⟨i, j, row, e1, e2, e3, e4⟩ := JhZ (fun row hm => hl row (by simp [hm])) h'
      exact ⟨i + 1, j, row, by rw [Nat.add_mul]; omega, by simpa using e2, e3, e4⟩
theorem Je8 {α : Type} {esz : Nat} : ∀ {rows : List (List α)}, (∀ row ∈ rows, row.length = esz) → rows.flatten.length = rows.length * esz
  | [], _ => by simp
  | r :: rows, hl => by
    have := Je8 (rows := rows) (fun row hm => hl row (by simp [hm]))
    have h1 := hl r (by simp)
    simp [this, h1, Nat.add_mul]; omega
theorem J6V.cells {s : Sn} {esz rows v} (h : J6V s esz rows v) :
    ∃ (a : Option Addr) (cap : Nat) (vs : List Value), v = .slice a rows.length cap ∧ rows.length ≤ cap ∧ vs.length = rows.length * esz ∧
      (∀ (k : Nat) x, rows.flatten[k]? = some x → ∃ u, vs[k]? = some u ∧ JJ s.w s.g.C x u) ∧
      (rows = [] ∨ ∃ r o, a = some ⟨r, o, none⟩ ∧ ∀ (k : Nat) u, vs[k]? = some u → JY s.w r (o + k) = some u) ∧ (∀ row ∈ rows, row.length = esz) := by
  obtain ⟨a, cap, h1, h2, h3, h4⟩ := h
  rcases h4 with rfl | ⟨r, o, ha, hx⟩
  · exact ⟨a, cap, [], h1, h2, by simp, fun k x hk => by simp at hk, .inl rfl, h3⟩
  · refine ⟨a, cap, (List.range (rows.length * esz)).map fun k => (JY s.w r (o + k)).getD .nilFunc, h1, h2, by simp, fun k x hk => ?_, .inr ⟨r, o, ha, fun k u hk => ?_⟩, h3⟩
    · obtain ⟨i, j, row, e1, e2, e3, _⟩ := JhZ h3 hk
      obtain ⟨u, hu, hr⟩ := hx i j row x e2 e3
      have hlt := Jb hk
      rw [Je8 h3] at hlt
      refine ⟨u, ?_, hr⟩
      rw [List.getElem?_map, List.getElem?_range hlt]
      have : o + k = o + i * esz + j := by omega
      simp [this, hu]
    · have hlt := Jb hk
      simp at hlt
      rw [List.getElem?_map, List.getElem?_range hlt] at hk
      simp at hk
      have : k < rows.flatten.length := by rw [Je8 h3]; exact hlt
      obtain ⟨i, j, row, e1, e2, e3, _⟩ := JhZ h3 (List.getElem?_eq_getElem this)
      obtain ⟨u', hu, _⟩ := hx i j row _ e2 e3
      have e4 : o + k = o + i * esz + j := by omega
      rw [e4, hu] at hk ⊢
      simpa using hk
theorem Jfe : ∀ {rows : List (List PV)} {l : List UInt8}, J5F rows = some l → ∃ ns : List Int, rows = ns.map (fun n => [PV.i .u8 n]) ∧ l = ns.map fun n => UInt8.ofNat n.toNat
  | [], l, h => by simp [J5F] at h; exact ⟨[], rfl, by simp [h]⟩
  | row :: rows, l, h => by
    unfold J5F at h
    split at h
    · simp_all
    · rename_i n r heq
      injection heq with e1 e2; subst e1 e2
      split at h
      · rename_i l' hl'
        injection h with h; subst h
        obtain ⟨ns, h1, h2⟩ := Jfe hl'
        exact ⟨n :: ns, by simp [h1], by simp [h2]⟩
      · cases h
    · cases h
theorem Jpq (ns : List Int) : ∀ b : ByteArray, (ns.foldl (fun r n => r.push (UInt8.ofNat n.toNat)) b) = ⟨b.data ++ (ns.map fun n => UInt8.ofNat n.toNat).toArray⟩ := by
  induction ns with
  | nil => intro b; simp
  | cons n ns ih =>
    intro b
    simp only [List.foldl_cons, ih]
    apply ByteArray.ext
    apply Array.ext'
    simp [ByteArray.push]
theorem J9C (r o n : Nat) : Addr.add ⟨r, o, none⟩ n = ⟨r, o + n, none⟩ := by unfold Addr.add; split <;> simp_all
theorem Jkm {w : World} {r o : Nat} (vs : List Value) (h : ∀ (k : Nat) u, vs[k]? = some u → JY w r (o + k) = some u) :
    (loadCells ⟨r, o, none⟩ vs.length).run P w = .ok vs.toArray w :=
  run_loadCells_list w _ vs fun j v hj => by rw [J9C, J55]; exact h j v hj
theorem Juk (hi : Inv s) (he : JQ s a.tmps env) {k x} (hk : ∀ own, k ≠ .toBytes own) (h : (opR F (.conv k x) new).run ⟨env, s.σ⟩ = some e) (hc : JA P (.conv k x) o.op = true) : J0H P o a s e := by
  simp only [opR] at h
  obtain ⟨u, h1, h'⟩ := bind_some h
  clear h
  unfold JA at hc
  simp only at hc
  split at hc
  · rename_i src dst y hop
    simp only [Bool.and_eq_true] at hc
    obtain ⟨hx, ht⟩ := hc
    have rx := JI he h1 hx
    generalize hz : a.eval y = z at rx
    split at h'
    · rename_i k' k1 n
      simp only [RM.run] at h'; injection h' with h'; subst h'
      simp only [Bool.and_eq_true] at ht
      obtain ⟨ks, hs⟩ := Jqk ht.1
      have hd := Jpi ht.2
      have := J4B rx; subst this
      exact Js hi (v := .int k' (k'.wrap n)) (by simp [execOp, hop, hz, convert, run_underlying hs, run_underlying hd, Conv.intToInt]) (J6b _ _)
    · rename_i l
      simp only [RM.run] at h'; injection h' with h'; subst h'
      simp only [Bool.and_eq_true] at ht
      have hs := J7p ht.1
      have hd := J7p ht.2
      have := Ja4 rx; subst this
      exact Js hi (v := .string ⟨l.toArray⟩) (by simp [execOp, hop, hz, convert, run_underlying hs, run_underlying hd]) (Jg9 _)
    · simp only [Bool.and_eq_true] at ht
      obtain ⟨ht, hd⟩ := ht
      have hd := J7p hd
      split at ht
      · rename_i el hel
        simp only [Bool.and_eq_true, beq_iff_eq] at ht
        have hs := J1Q hel
        have hu8 := Jnq ht.1
        obtain ⟨rows, h4, h5⟩ := bind_some h'
        clear h'
        split at h5
        · rename_i l hl
          simp only [RM.run] at h5; injection h5 with h5; subst h5
          rcases Jik hi h4 rx with ⟨l', rfl, _, hrows, hv⟩ | hsl
          ·
            have := Ja4 rx; subst this
            have : l = l' := by
              have : ∀ l : List UInt8, J5F (l.map J49) = some l := by
                intro l
                induction l with
                | nil => rfl
                | cons b l ih => simp [J5F, J49, ih]
              rw [hrows, this] at hl
              injection hl with hl; exact hl.symm
            subst this
            exact Js hi (v := .string ⟨l.toArray⟩) (by simp [execOp, hop, hz, convert, run_underlying hs, run_underlying hd]) (Jg9 _)
          · obtain ⟨ad, cap, vs, hv, hcap, hlen, hrel, hmem, hrow⟩ := hsl.cells
            obtain ⟨ns, hr, rfl⟩ := Jfe hl
            have hvs : vs = ns.map (Value.int .u8) := by
              apply List.ext_getElem?
              intro k
              have hfl : rows.flatten = ns.map (PV.i .u8) := by rw [hr]; clear hr hl hrel hlen hrow hmem hv hcap h4 rx; induction ns with
                | nil => rfl
                | cons n ns ih => simp [ih]
              by_cases hk : k < ns.length
              · obtain ⟨u, hu, hp⟩ := hrel k (.i .u8 ns[k]) (by rw [hfl]; simp [hk])
                cases hp
                rw [hu]; simp [hk]
              · have h6 : vs.length = ns.length := by rw [hlen, hr]; simp
                rw [List.getElem?_eq_none (by omega), List.getElem?_eq_none (by simp; omega)]
            have hlen' : rows.length = vs.length := by omega
            subst hv
            have hrun : (Conv.bytesToString (.slice ad rows.length cap)).run P s.w = .ok (.string ⟨(ns.map fun n => UInt8.ofNat n.toNat).toArray⟩) s.w := by
              rcases hmem with hnil | ⟨r, o', rfl, hm⟩
              · have hn0 : ns = [] := by rw [hnil] at hr; simpa using hr.symm
                subst hn0
                cases ad with
                | none => simp [Conv.bytesToString]; rfl
                | some ad =>
                  have := run_bytesToString (P := P) s.w ad rows.length cap [] (by rw [hnil]; simp [loadCells, loadCellsFrom])
                  rw [this]; rfl
              · have := run_bytesToString (P := P) s.w ⟨r, o', none⟩ rows.length cap ns (by rw [hlen', ← hvs]; exact Jkm vs hm)
                rw [this, Jpq]
                simp
            refine Js hi (v := .string ⟨(ns.map fun n => UInt8.ofNat n.toNat).toArray⟩) ?_ (Jg9 _)
            simp [execOp, hop, hz, convert, run_underlying hs, run_underlying hd, run_underlying hu8, hrun]
        · cases h5
      · cases ht
    · rename_i own l
      exact absurd rfl (hk own)
    · cases h'
  · cases hc
end
end Go.Am
end
section
namespace Go.Am
theorem Jdy {α : Type} {cs l : List α} {off size : Nat} (h : sub cs off size = some l) : l.length = size ∧ off + size ≤ cs.length ∧ ∀ (i : Nat), i < size → l[i]? = cs[off + i]? := by
  unfold sub at h
  split at h
  · rename_i hc
    injection h with h; subst h
    exact ⟨hc.2, by omega, fun i hi => by rw [hc.1, Nat.zero_add]⟩
  · split at h
    · rename_i hc
      injection h with h; subst h
      refine ⟨by simp; omega, hc, fun i hi => ?_⟩
      rw [List.getElem?_take, if_pos hi, List.getElem?_drop]
    · cases h
theorem Je5 : ∀ {cs : List AV} {l : List PV}, unp cs = some l → cs = l.map .p
  | [], l, h => by simp [unp] at h; simp [h]
  | x :: cs, l, h => by
    unfold unp at h
    split at h
    · simp_all
    · rename_i c r heq
      injection heq with e1 e2; subst e1 e2
      split at h
      · rename_i l' hl
        injection h with h; subst h
        simp [Je5 hl]
      · cases h
    · cases h
section
variable {P : Program} {F : Orc} {s : Sn} {a : Act} {env : List (Nat × AV)} {o : Oper} {new : Nat} {e : Eff}
theorem JjY {agg : Bool} {l : List PV} {x : AV} {vs : List Value} (h : J1P agg l = some x) (hl : l.length = vs.length)
    (hr : ∀ (i : Nat) y v, l[i]? = some y → vs[i]? = some v → JJ s.w s.g.C y v) :
    (agg = true ∧ Jr s x (.agg vs.toArray)) ∨ (agg = false ∧ ∃ v, vs = [v] ∧ Jr s x v) := by
  cases agg with
  | true =>
    simp [J1P] at h; subst h
    exact .inl ⟨rfl, .data _ _ (by simpa using hl) fun i y v hy hv => hr i y v hy (by simpa using hv)⟩
  | false =>
    simp only [J1P, Bool.false_eq_true, if_false] at h
    split at h
    · injection h with h; subst h
      obtain ⟨v, rfl⟩ : ∃ v, vs = [v] := List.length_eq_one_iff.1 (by simpa using hl.symm)
      exact .inr ⟨rfl, v, rfl, .p _ _ (hr 0 _ v rfl rfl)⟩
    · cases h
theorem JiZ {agg : Bool} {l : List AV} {x : AV} {vs : List Value} (h : J1C agg l = some x) (hl : l.length = vs.length) (h1 : ∀ v ∈ vs, v.oneCell' = true)
    (hr : ∀ (i : Nat) y v, l[i]? = some y → vs[i]? = some v → Jr s y v) :
    (agg = true ∧ Jr s x (.agg vs.toArray)) ∨ (agg = false ∧ ∃ v, vs = [v] ∧ Jr s x v) := by
  cases agg with
  | true =>
    simp only [J1C, if_true] at h
    split at h
    · rename_i q hq
      injection h with h; subst h
      have := Je5 hq; subst this
      refine .inl ⟨rfl, .data _ _ (by simpa using hl) fun i y v hy hv => ?_⟩
      have := hr i (.p y) v (by simp [hy]) (by simpa using hv)
      cases this with | p _ _ h => exact h
    · injection h with h; subst h
      exact .inl ⟨rfl, .agg _ _ (by simpa using hl) (fun i v hv => h1 v (by have := JV (l := vs) (i := i) (x := v) (by simpa using hv); exact this)) fun i y v hy hv => hr i y v hy (by simpa using hv)⟩
  | false =>
    simp only [J1C, Bool.false_eq_true, if_false] at h
    split at h
    · injection h with h; subst h
      obtain ⟨v, rfl⟩ : ∃ v, vs = [v] := List.length_eq_one_iff.1 (by simpa using hl.symm)
      exact .inr ⟨rfl, v, rfl, hr 0 _ v rfl rfl⟩
    · cases h
theorem Jkv {agg : Bool} {off size : Nat} {x r : AV} {v : Value} {t : TypeId} (h : J5o agg off size x = some r) (hr : Jr s x v) (ht : agT P t = some agg) (hs : szT P t = some size)
    (h1 : agg = true ∨ size = 1) : ∃ cs u, v = .agg cs ∧ (part t cs off).run P s.w = .ok u s.w ∧ Jr s r u := by
  have go : ∀ (cs : Array Value) (vs : List Value), vs.length = size → (∀ (i : Nat), i < size → vs[i]? = cs[off + i]?) → off + size ≤ cs.size →
      ((agg = true ∧ Jr s r (.agg vs.toArray)) ∨ (agg = false ∧ ∃ v, vs = [v] ∧ Jr s r v)) → ∃ u, (part t cs off).run P s.w = .ok u s.w ∧ Jr s r u := by
    intro cs vs hvl hvg hle hor
    rcases hor with ⟨rfl, hra⟩ | ⟨rfl, v, rfl, hra⟩
    · refine ⟨.agg (cs.extract off (off + size)), by simp [part, JbJ ht, J2U hs], ?_⟩
      have : cs.extract off (off + size) = vs.toArray := by
        apply Array.ext'
        rw [Array.toList_extract]
        apply List.ext_getElem?
        intro k
        simp only [List.extract, Nat.add_sub_cancel_left]
        rw [List.getElem?_take]
        split
        · rename_i hk
          rw [List.getElem?_drop, Array.getElem?_toList, hvg k hk]
        · rw [List.getElem?_eq_none (by omega)]
      rw [this]; exact hra
    · simp at hvl; subst hvl
      have h0 := hvg 0 (by omega)
      simp at h0
      exact ⟨v, by simp [part, JbJ ht, ← h0], hra⟩
  unfold J5o at h
  split at h
  · rename_i cs
    split at h
    · rename_i l hl
      obtain ⟨k1, k2, k3⟩ := Jdy hl
      cases hr with
      | data _ vs q1 q2 =>
        have hor := JjY (s := s) (vs := ((vs.toList.drop off).take size)) h (by simp; omega) (by
          intro i y v hy hv
          have hi := Jb hy
          rw [k3 i (by omega)] at hy
          rw [List.getElem?_take, if_pos (by omega), List.getElem?_drop] at hv
          exact q2 _ y v hy (by simpa using hv))
        obtain ⟨u, hu, hra⟩ := go vs _ (by simp; omega) (by intro i hi; rw [List.getElem?_take, if_pos hi, List.getElem?_drop]; simp) (by omega) hor
        exact ⟨vs, u, rfl, hu, hra⟩
    · cases h
  · rename_i cs
    split at h
    · rename_i l hl
      obtain ⟨k1, k2, k3⟩ := Jdy hl
      cases hr with
      | agg _ vs q1 q0 q2 =>
        have hor := JiZ (s := s) (vs := ((vs.toList.drop off).take size)) h (by simp; omega) (by
          intro v hv
          have hv := List.mem_of_mem_drop (List.mem_of_mem_take hv)
          obtain ⟨i, hi⟩ := List.getElem?_of_mem hv
          exact q0 i v (by simpa using hi)) (by
          intro i y v hy hv
          have hi := Jb hy
          rw [k3 i (by omega)] at hy
          rw [List.getElem?_take, if_pos (by omega), List.getElem?_drop] at hv
          exact q2 _ y v hy (by simpa using hv))
        obtain ⟨u, hu, hra⟩ := go vs _ (by simp; omega) (by intro i hi; rw [List.getElem?_take, if_pos hi, List.getElem?_drop]; simp) (by omega) hor
        exact ⟨vs, u, rfl, hu, hra⟩
    · cases h
  · cases h
theorem Jsf (hi : Inv s) (he : JQ s a.tmps env) {agg off size x} (h : (opR F (.field agg off size x) new).run ⟨env, s.σ⟩ = some e) (hc : JA P (.field agg off size x) o.op = true) : J0H P o a s e := by
  simp only [opR] at h
  obtain ⟨u, h1, h'⟩ := bind_some h
  obtain ⟨r, h3, rfl⟩ := J1N h'
  clear h h'
  unfold JA at hc
  simp only at hc
  split at hc
  · rename_i t y f hop
    simp only [Bool.and_eq_true] at hc
    obtain ⟨hx, ht⟩ := hc
    split at ht
    · rename_i fs hfs
      split at ht
      · rename_i fl hfl
        simp only [Bool.and_eq_true, beq_iff_eq] at ht
        obtain ⟨⟨⟨h4, h5⟩, h6⟩, h7⟩ := ht
        obtain ⟨cs, v, hv, hp, hr⟩ := Jkv h3 (JI he h1 hx) h6 h5 (by simpa using h7)
        exact Js hi (v := v) (by simp [execOp, hop, hv, Instr.field, run_underlying (JnA hfs), hfl, asAgg, h4, hp]) hr
      · cases ht
    · cases ht
  · cases hc
theorem JtV (hi : Inv s) (he : JQ s a.tmps env) {x i} (h : (opR F (.sidx x i) new).run ⟨env, s.σ⟩ = some e) (hc : JA P (.sidx x i) o.op = true) : J0H P o a s e := by
  simp only [opR] at h
  obtain ⟨u, h1, h'⟩ := bind_some h
  obtain ⟨v, h2, h''⟩ := bind_some h'
  clear h h'
  unfold JA at hc
  simp only at hc
  split at hc
  · rename_i t y j hop
    simp only [Bool.and_eq_true] at hc
    obtain ⟨⟨hx, hj⟩, ht⟩ := hc
    have rx := JI he h1 hx
    have rj := JI he h2 hj
    split at h''
    · rename_i l k n
      split at h''
      · rename_i hn
        split at h''
        · rename_i b hb
          simp only [RM.run] at h''; injection h'' with h''; subst h''
          have ex := Ja4 rx
          have ej := J4B rj
          have hb' : (⟨l.toArray⟩ : ByteArray)[n.toNat]? = some b := by
            have hlt := Jb hb
            rw [List.getElem?_eq_getElem hlt] at hb
            rw [getElem?_pos _ _ (by show n.toNat < ByteArray.size _; rw [J8G]; exact hlt)]
            injection hb with hb
            rw [← hb]; rfl
          refine Js hi (v := .int .u8 b.toNat) ?_ (J6b _ _)
          simp [execOp, hop, ex, ej, Instr.index, asIntOf, run_underlying (J7p ht), hn, hb']
        · cases h''
      · cases h''
    · cases h''
  · cases hc
theorem JtO (hi : Inv s) (he : JQ s a.tmps env) {agg len esz x i} (h : (opR F (.aidx agg len esz x i) new).run ⟨env, s.σ⟩ = some e) (hc : JA P (.aidx agg len esz x i) o.op = true) : J0H P o a s e := by
  simp only [opR] at h
  obtain ⟨u, h1, h'⟩ := bind_some h
  obtain ⟨v, h2, h''⟩ := bind_some h'
  clear h h'
  unfold JA at hc
  simp only at hc
  split at hc
  · rename_i t y j hop
    simp only [Bool.and_eq_true] at hc
    obtain ⟨⟨hx, hj⟩, ht⟩ := hc
    have rx := JI he h1 hx
    have rj := JI he h2 hj
    split at ht
    · rename_i n el har
      simp only [Bool.and_eq_true, beq_iff_eq] at ht
      obtain ⟨⟨⟨rfl, h5⟩, h6⟩, h7⟩ := ht
      split at h''
      · rename_i k m
        split at h''
        · rename_i hm
          obtain ⟨r, h3, rfl⟩ := J1N h''
          obtain ⟨cs, w, hv, hp, hr⟩ := Jkv h3 rx h6 h5 (by simpa using h7)
          have ej := J4B rj
          exact Js hi (v := w) (by simp [execOp, hop, hv, ej, Instr.index, asIntOf, run_underlying (Ji6 har), hm, J2U h5, hp]) hr
        · cases h''
      · cases h''
    · cases ht
  · cases hc
theorem JrV (hi : Inv s) (he : JQ s a.tmps env) {len esz x i} (h : (opR F (.aaddr len esz x i) new).run ⟨env, s.σ⟩ = some e) (hc : JA P (.aaddr len esz x i) o.op = true) : J0H P o a s e := by
  simp only [opR] at h
  obtain ⟨u, h1, h'⟩ := bind_some h
  obtain ⟨v, h2, h''⟩ := bind_some h'
  obtain ⟨r, h3, rfl⟩ := J1N h''
  clear h h' h''
  unfold JA at hc
  simp only at hc
  split at hc
  · rename_i t y j hop
    simp only [Bool.and_eq_true] at hc
    obtain ⟨⟨hx, hj⟩, ht⟩ := hc
    have rx := JI he h1 hx
    have rj := JI he h2 hj
    split at ht
    · rename_i n el har
      simp only [Bool.and_eq_true, beq_iff_eq] at ht
      obtain ⟨rfl, h5⟩ := ht
      unfold JaS at h3
      split at h3
      · rename_i k m
        split at h3
        · rename_i hm
          have ej := J4B rj
          have go : ∀ (r o' : Nat), a.eval y = .pointer (some ⟨r, o', none⟩) → (execOp a.eval o).run P s.w = .ok (.value (.pointer (some ⟨r, o' + m.toNat * esz, none⟩))) s.w := by
            intro r o' hz
            simp [execOp, hop, hz, ej, Instr.indexAt, asIntOf, run_underlying (Ji6 har), Instr.sureAddr, hm, J2U h5, J9C]
          generalize hz : a.eval y = z at rx
          split at h3 <;> first | (injection h3 with h3; subst h3) | cases h3
          · cases rx with
            | ptr _ _ r o' m' hb => exact Js hi (go _ _ hz) (by rw [Nat.add_assoc]; exact .ptr _ _ r o' m' hb)
          · cases rx with
            | cp cs _ r o' vals p1 p2 => exact Js hi (go _ _ hz) (by rw [Nat.add_assoc]; exact .cp _ _ r o' vals p1 p2)
          · cases rx with
            | ep _ _ _ _ _ wm esz' rows p0 p1 p2 p3 =>
              obtain ⟨r, o', rfl⟩ := p0
              refine Js hi (go _ _ hz) (.ep _ _ _ _ _ wm esz' rows ⟨_, _, rfl⟩ p1 p2 fun e1 e2 => ?_)
              obtain ⟨r', m', hv⟩ := p3 e1 e2
              simp at hv
              obtain ⟨rfl, rfl⟩ := hv
              exact ⟨r, m', by rw [Nat.add_assoc]⟩
        · cases h3
      · cases h3
    · cases ht
  · cases hc
theorem Jrr (hi : Inv s) (he : JQ s a.tmps env) {esz x i} (h : (opR F (.iaddr esz x i) new).run ⟨env, s.σ⟩ = some e) (hc : JA P (.iaddr esz x i) o.op = true) : J0H P o a s e := by
  simp only [opR] at h
  obtain ⟨u, h1, h'⟩ := bind_some h
  obtain ⟨v, h2, h''⟩ := bind_some h'
  clear h h'
  unfold JA at hc
  simp only at hc
  split at hc
  · rename_i t y j hop
    simp only [Bool.and_eq_true] at hc
    obtain ⟨⟨hx, hj⟩, ht⟩ := hc
    have rx := JI he h1 hx
    have rj := JI he h2 hj
    split at ht
    · rename_i el hel
      simp only [beq_iff_eq] at ht
      have go : ∀ (r o' len cap : Nat) k (m : Int), a.eval j = .int k m → a.eval y = .slice (some ⟨r, o', none⟩) len cap → 0 ≤ m → m < len →
          (execOp a.eval o).run P s.w = .ok (.value (.pointer (some ⟨r, o' + m.toNat * esz, none⟩))) s.w := by
        intro r o' len cap k m ej hz h0 hlt
        simp [execOp, hop, hz, ej, Instr.indexAt, asIntOf, run_underlying (J1Q hel), h0, hlt, J2U ht, J9C]
      unfold J2R at h''
      split at h''
      · rename_i esz' rows k n
        split at h''
        · rename_i hez; subst hez
          split at h''
          · rename_i row hrow
            simp only [RM.run] at h''; injection h'' with h''; subst h''
            unfold Jbx at hrow
            split at hrow
            · rename_i hn
              have ej := J4B rj
              generalize hz : a.eval y = z at rx
              cases rx with
              | p _ _ rp =>
                cases rp with
                | sl0 _ ad cap => simp at hrow
                | sl _ _ r o' cap vals p1 p2 p3 p4 =>
                  have hlt := Jb hrow
                  refine Js hi (go r o' _ cap k n ej hz hn (by omega)) ?_
                  have := Jr.cp (s := s) row 0 r (o' + n.toNat * esz) (fun j => vals n.toNat j) (fun j x hx => p3 n.toNat j row x hrow hx) (fun j x hx => p4 n.toNat j row x hrow hx)
                  simpa using this
            · cases hrow
          · cases h''
        · cases h''
      · rename_i b j' m k n
        simp only [RM.run] at h''
        split at h''
        · rename_i blk hb
          split at h''
          · rename_i wm esz' rows
            split at h''
            · rename_i hcnd
              obtain ⟨rfl, hjm, hn, hnm⟩ := hcnd
              simp only [RM.run] at h''; injection h'' with h''; subst h''
              have ej := J4B rj
              generalize hz : a.eval y = z at rx
              cases rx with
              | slr _ _ _ _ wm' esz' rows' q0 q1 q2 q3 =>
                have hb' : s.σ[b]? = some (.arr wm esz rows) := hb
                rw [hb'] at q1; injection q1 with q1; injection q1 with a1 a2 a3; subst a1 a2 a3
                rcases q3 hjm with ⟨_, _, hm0, _⟩ | ⟨r, cap, c, e1, fz, m', hv, hcap, hh, hs⟩
                · omega
                · subst hv
                  refine Js hi (go r _ _ cap k n ej hz hn (by omega)) (.ep _ _ _ _ _ wm esz rows ⟨_, _, rfl⟩ hb' (Nat.le_refl _) fun _ _ => ⟨r, m', ?_⟩)
                  simp [Nat.add_mul]
            · cases h''
          · cases h''
        · cases h''
      · cases h''
    · cases ht
  · cases hc
end
end Go.Am
end
section
namespace Go.Am
theorem J2j (a b : List (Nat × Blk)) (σ : List Blk) : upd (a ++ b) σ = upd b (upd a σ) := by simp [upd, List.foldl_append]
section
variable {P : Program} {F : Orc} {s : Sn} {a : Act} {env : List (Nat × AV)} {o : Oper} {new : Nat} {e : Eff}
theorem Jaa {σ0 : List Blk} (hi : Inv s) (hF : Frz σ0 s.σ) {b i n : Nat} {y : List PV × List (Nat × Blk)} {v : Value} (h : (fz (.slr b i n)).run ⟨env, σ0⟩ = some y) (hr : Jr s (.slr b i n) v) :
    ∃ g', Inv ⟨upd y.2 s.σ, g', s.w⟩ ∧ JE s ⟨upd y.2 s.σ, g', s.w⟩ ∧ Frz s.σ (upd y.2 s.σ) ∧ ∃ c, y.1 = [c] ∧ JJ s.w g'.C c v := by
  simp only [fz, RM.run] at h
  split at h
  · rename_i blk hb
    split at h
    · rename_i wm esz rows
      split at h
      · rename_i hc
        simp only [RM.run] at h; injection h with h; subst h
        obtain ⟨wm', hb'⟩ := hF.1 b _ _ _ hb
        obtain ⟨g', h1, h2, h3, h4⟩ := Jr7 hi hr hb' hc
        exact ⟨g', h1, h2, h3, _, rfl, h4⟩
      · cases h
    · cases h
  · cases h
theorem Juu {σ0 : List Blk} (hi : Inv s) (hF : Frz σ0 s.σ) {x : AV} {y : List PV × List (Nat × Blk)} {v : Value} (h : (fz.fz1 x).run ⟨env, σ0⟩ = some y) (hr : Jr s x v) :
    ∃ g', Inv ⟨upd y.2 s.σ, g', s.w⟩ ∧ JE s ⟨upd y.2 s.σ, g', s.w⟩ ∧ Frz s.σ (upd y.2 s.σ) ∧ ∃ c, y.1 = [c] ∧ JJ s.w g'.C c v := by
  cases x with
  | p c =>
    simp only [fz.fz1, RM.run] at h; injection h with h; subst h
    cases hr with
    | p _ _ hr => exact ⟨s.g, hi, .refl s, .refl _, c, rfl, hr⟩
  | slr b i n => exact Jaa hi hF (by exact h) hr
  | _ => simp only [fz.fz1, RM.run] at h; cases h
theorem JoE {σ0 : List Blk} : ∀ {xs : List AV} {s : Sn} {y : List PV × List (Nat × Blk)} {vs : List Value}, Inv s → Frz σ0 s.σ → (fz.fzL xs).run ⟨env, σ0⟩ = some y → xs.length = vs.length →
    (∀ (i : Nat) x v, xs[i]? = some x → vs[i]? = some v → Jr s x v) →
    ∃ g', Inv ⟨upd y.2 s.σ, g', s.w⟩ ∧ JE s ⟨upd y.2 s.σ, g', s.w⟩ ∧ Frz s.σ (upd y.2 s.σ) ∧ y.1.length = vs.length ∧
      ∀ (i : Nat) c v, y.1[i]? = some c → vs[i]? = some v → JJ s.w g'.C c v
  | [], s, y, vs, hi, hF, h, hl, hr => by
    simp only [fz.fzL, RM.run] at h; injection h with h; subst h
    exact ⟨s.g, hi, .refl s, .refl _, by simpa using hl, fun i c v hc => by simp at hc⟩
  | x :: xs, s, y, [], hi, hF, h, hl, hr => by simp at hl
  | x :: xs, s, y, v :: vs, hi, hF, h, hl, hr => by
    simp only [fz.fzL] at h
    obtain ⟨y1, h1, h⟩ := bind_some h
    obtain ⟨y2, h2, h⟩ := bind_some h
    simp only [RM.run] at h; injection h with h; subst h
    obtain ⟨g1, i1, t1, f1, c, hc, rc⟩ := Juu hi hF h1 (hr 0 x v rfl rfl)
    obtain ⟨g2, i2, t2, f2, l2, r2⟩ := JoE (s := ⟨upd y1.2 s.σ, g1, s.w⟩) i1 (hF.trans f1) h2 (by simpa using hl) fun i x v hx hv => (hr (i + 1) x v (by simpa using hx) (by simpa using hv)).mono hi t1
    refine ⟨g2, by rw [J2j]; exact i2, by rw [J2j]; exact t1.trans t2, by rw [J2j]; exact f1.trans f2, by simp [hc, l2], fun i c' v' hc' hv' => ?_⟩
    rw [hc] at hc'
    cases i with
    | zero =>
      simp at hc' hv'; subst hc' hv'
      exact JJ.mono (s0 := ⟨upd y1.2 s.σ, g1, s.w⟩) (s := ⟨upd y2.2 (upd y1.2 s.σ), g2, s.w⟩) i1 t2 rc
    | succ i => exact r2 i c' v' (by simpa using hc') (by simpa using hv')
theorem Jmz {σ0 : List Blk} (hi : Inv s) (hF : Frz σ0 s.σ) {x : AV} {y : List PV × List (Nat × Blk)} {v : Value} (h : (fz x).run ⟨env, σ0⟩ = some y) (hr : Jr s x v) :
    ∃ g', Inv ⟨upd y.2 s.σ, g', s.w⟩ ∧ JE s ⟨upd y.2 s.σ, g', s.w⟩ ∧ Frz s.σ (upd y.2 s.σ) ∧ y.1.length = v.cells.size ∧
      ∀ (i : Nat) c u, y.1[i]? = some c → v.cells[i]? = some u → JJ s.w g'.C c u := by
  cases x with
  | p c =>
    simp only [fz, RM.run] at h; injection h with h; subst h
    cases hr with
    | p _ _ hr =>
      refine ⟨s.g, hi, .refl s, .refl _, by rw [hr.cells1]; rfl, fun i c' u hc hu => ?_⟩
      rw [hr.cells1] at hu
      cases i with
      | zero => simp at hc hu; subst hc hu; exact hr
      | succ i => simp at hc
  | data cs =>
    simp only [fz, RM.run] at h; injection h with h; subst h
    cases hr with
    | data _ vs h1 h2 => exact ⟨s.g, hi, .refl s, .refl _, h1, fun i c u hc hu => h2 i c u hc hu⟩
  | slr b i n =>
    obtain ⟨g', h1, h2, h3, c, hc, rc⟩ := Jaa hi hF h hr
    refine ⟨g', h1, h2, h3, by rw [hc, rc.cells1]; rfl, fun i c' u hc' hu => ?_⟩
    rw [rc.cells1] at hu
    rw [hc] at hc'
    cases i with
    | zero => simp at hc' hu; subst hc' hu; exact rc
    | succ i => simp at hc'
  | agg cs =>
    simp only [fz] at h
    cases hr with
    | agg _ vs h1 h0 h2 =>
      obtain ⟨g', k1, k2, k3, k4, k5⟩ := JoE (vs := vs.toList) hi hF h (by simpa using h1) fun i x v hx hv => h2 i x v hx (by simpa using hv)
      exact ⟨g', k1, k2, k3, by simpa [Value.cells] using k4, fun i c u hc hu => k5 i c u hc (by simpa [Value.cells] using hu)⟩
  | _ => simp only [fz, RM.run] at h; cases h
theorem JbI (he : JQ s a.tmps env) {x : Option Opd} {y : Option Operand} {v : Option AV} (h : (evo x).run ⟨env, s.σ⟩ = some v) (hc : JcJ x y = true) :
    (v = none ∧ y = none) ∨ ∃ u q, v = some u ∧ y = some q ∧ Jr s u (a.eval q) := by
  cases x with
  | none =>
    simp only [evo, RM.run] at h; injection h with h; subst h
    cases y with
    | none => exact .inl ⟨rfl, rfl⟩
    | some _ => simp [JcJ] at hc
  | some x =>
    cases y with
    | none => simp [JcJ] at hc
    | some y =>
      simp only [evo] at h
      obtain ⟨u, h1, h⟩ := bind_some h
      simp only [RM.run] at h; injection h with h; subst h
      exact .inr ⟨u, y, rfl, rfl, JI he h1 hc⟩
theorem Jcv {x : AV} {top n dflt : Nat} {v : Value} (h : J78 (some x) top dflt = some n) (hr : Jr s x v) (top' : Nat) (hle : top ≤ top') (code : BoundsCode) (w : World) :
    (Instr.sliceBound v top' code).run P w = .ok n w ∧ n ≤ top := by
  unfold J78 at h
  split at h
  · rename_i heq; cases heq
  · rename_i heq; injection heq with heq; subst heq
    split at h
    · rename_i hc
      injection h with h; subst h
      have := J4B hr; subst this
      refine ⟨?_, by omega⟩
      simp only [Instr.sliceBound, asIntOf, Sem.run_bind, Sem.run_pure, Result.andThen_ok]
      rw [if_pos ⟨hc.1, by omega⟩]
      rfl
    · cases h
  · cases h
theorem Jqo {n : Nat} {lo hi : Option AV} {c : Nat × Nat} (h : JfC n lo hi = some c) : J78 hi n n = some c.2 ∧ J78 lo c.2 0 = some c.1 := by
  unfold JfC at h
  split at h
  · cases h
  · rename_i j hj
    split at h
    · cases h
    · rename_i i hi
      injection h with h; subst h
      exact ⟨hj, hi⟩
theorem JdR (he : JQ s a.tmps env) {lo hi : Option Opd} {lo' hi' : Option Operand} {l h : Option AV} {len cap : Nat} {c : Nat × Nat} {isSlice : Bool}
    (h1 : (evo lo).run ⟨env, s.σ⟩ = some l) (h2 : (evo hi).run ⟨env, s.σ⟩ = some h) (c1 : JcJ lo lo' = true) (c2 : JcJ hi hi' = true)
    (hc : JfC len l h = some c) (hle : len ≤ cap) (w : World) :
    (Instr.sliceBounds isSlice len cap (lo'.map a.eval) (hi'.map a.eval) none).run P w = .ok (c.1, c.2, cap) w ∧ c.1 ≤ c.2 ∧ c.2 ≤ len := by
  obtain ⟨hj, hi0⟩ := Jqo hc
  obtain ⟨i, j⟩ := c
  rcases JbI he h2 c2 with ⟨rfl, rfl⟩ | ⟨u, q, rfl, rfl, hr⟩
  · simp [J78] at hj; subst hj
    rcases JbI he h1 c1 with ⟨rfl, rfl⟩ | ⟨u', q', rfl, rfl, hr'⟩
    · simp [J78] at hi0; subst hi0
      exact ⟨by simp [Instr.sliceBounds], Nat.zero_le _, Nat.le_refl _⟩
    · obtain ⟨k1, k2⟩ := Jcv (P := P) hi0 hr' len (Nat.le_refl _) .sliceB w
      exact ⟨by simp [Instr.sliceBounds, k1], k2, Nat.le_refl _⟩
  · rcases JbI he h1 c1 with ⟨rfl, rfl⟩ | ⟨u', q', rfl, rfl, hr'⟩
    · obtain ⟨k1, k2⟩ := Jcv (P := P) hj hr cap hle (if isSlice then .sliceAcap else .sliceAlen) w
      simp [J78] at hi0; subst hi0
      exact ⟨by simp [Instr.sliceBounds, k1], Nat.zero_le _, k2⟩
    · obtain ⟨k1, k2⟩ := Jcv (P := P) hj hr cap hle (if isSlice then .sliceAcap else .sliceAlen) w
      obtain ⟨k3, k4⟩ := Jcv (P := P) hi0 hr' j (Nat.le_refl _) .sliceB w
      exact ⟨by simp [Instr.sliceBounds, k1, k3], k4, k2⟩
theorem Jqd {esz : Nat} {rows : List (List PV)} {v : Value} {i j : Nat} (h : JJ s.w s.g.C (.sl esz rows) v) (hij : i ≤ j) (hj : j ≤ rows.length) :
    ∃ ad cap, v = .slice ad rows.length cap ∧ rows.length ≤ cap ∧
      JJ s.w s.g.C (.sl esz ((rows.drop i).take (j - i))) (.slice (if cap = i then ad else ad.map (·.add (i * esz))) (j - i) (cap - i)) := by
  have hlen : ((rows.drop i).take (j - i)).length = j - i := by simp; omega
  cases h with
  | sl0 _ ad cap =>
    have hj' : j = 0 := by simpa using hj
    have hi' : i = 0 := by omega
    subst hj' hi'
    refine ⟨ad, cap, rfl, Nat.zero_le _, ?_⟩
    simpa using JJ.sl0 (w := s.w) (C := s.g.C) esz _ _
  | sl _ _ r o cap vals p1 p2 p3 p4 =>
    refine ⟨_, cap, rfl, p1, ?_⟩
    by_cases hci : cap = i
    · have h0 : j - i = 0 := by omega
      rw [h0]
      simpa using JJ.sl0 (w := s.w) (C := s.g.C) esz _ _
    · rw [if_neg hci]
      have := JJ.sl (w := s.w) (C := s.g.C) esz ((rows.drop i).take (j - i)) r (o + i * esz) (cap - i) (fun k m => vals (i + k) m) (by omega)
        (fun row hr => p2 row (List.mem_of_mem_drop (List.mem_of_mem_take hr)))
        (fun k m row x hk hm => by
          rw [List.getElem?_take] at hk
          split at hk
          · rw [List.getElem?_drop] at hk
            have := p3 (i + k) m row x hk hm
            rwa [show o + (i + k) * esz + m = o + i * esz + k * esz + m by rw [Nat.add_mul]; omega] at this
          · cases hk)
        (fun k m row x hk hm => by
          rw [List.getElem?_take] at hk
          split at hk
          · rw [List.getElem?_drop] at hk
            exact p4 (i + k) m row x hk hm
          · cases hk)
      rw [hlen] at this
      simpa [J9C] using this
def Jch (k : SK) (x : AV) (lo hi : Option AV) : Option AV :=
  match k with
  | .str => J2b x lo hi
  | .sl esz => J8m esz x lo hi
theorem Jp0 (hi : Inv s) {k : SK} {t : TypeId} {y : Operand} {lo2 hi2 : Option Operand} {q : Operand} {c : PV} {l hh : Option AV} {u r : AV} {g' : Gh} {ws : List (Nat × Blk)}
    (hop : o.op = .slice t y lo2 hi2 (some q)) (ht : (match k with
      | .str => J71 P t
      | .sl esz => (match elT P t with | some e => szT P e == some esz | none => false)) = true)
    (hl : l = none → lo2 = none) (hh2 : ∀ u', hh = some u' → ∃ q', hi2 = some q' ∧ Jr s u' (a.eval q')) (hu : Jr s u (a.eval q))
    (hs : J4x k (.p c) l hh (some u) = some r) (hi' : Inv ⟨upd ws s.σ, g', s.w⟩) (t' : JE s ⟨upd ws s.σ, g', s.w⟩) (hr : JJ s.w g'.C c (a.eval y)) : J0H P o a s ⟨r, ws⟩ := by
  cases k with
  | str => simp [J4x] at hs
  | sl esz =>
    simp only [J4x] at hs
    unfold JpB at hs
    split at hs
    · rename_i esz' rows k1 h1 k2 n1 heq
      injection heq with heq
      subst heq
      split at hs
      · rename_i hc
        obtain ⟨rfl, rfl, rfl⟩ := hc
        injection hs with hs; subst hs
        obtain ⟨q', rfl, hr2⟩ := hh2 _ rfl
        obtain rfl := hl rfl
        have e1 := J4B hr2
        have e2 := J4B hu
        simp only at ht
        split at ht
        · rename_i el hel
          simp only [beq_iff_eq] at ht
          obtain ⟨ad, cap, hv, hcap, hrel⟩ := Jqd (s := ⟨s.σ, g', s.w⟩) (i := 0) (j := rows.length) hr (Nat.zero_le _) (Nat.le_refl _)
          have hb : ∀ w : World, (Instr.sliceBounds true rows.length cap none (some (a.eval q')) (some (a.eval q))).run P w = .ok (0, rows.length, rows.length) w := by
            intro w
            rw [e1, e2]
            simp [Instr.sliceBounds, Instr.sliceBound, asIntOf, hcap]
          have hrel2 : JJ s.w g'.C (.slc esz rows) (.slice ad rows.length rows.length) := by
            refine .slc esz rows ad ?_
            rw [hv] at hr
            cases hr with
            | sl0 => exact .sl0 _ _ _
            | sl _ _ r o cap vals p1 p2 p3 p4 => exact .sl esz rows r o rows.length vals (Nat.le_refl _) p2 p3 p4
          refine J23 (e := ⟨_, ws⟩) (w' := s.w) (g' := g') (v := .slice ad rows.length rows.length) ?_ hi' t' (.p _ _ hrel2)
          have e0 : (if rows.length = 0 then ad else ad.map fun x => x.add (0 * esz)) = ad := by
            split
            · rfl
            · cases ad with
              | none => rfl
              | some ad => cases ad; simp [Addr.add]
          simp only [execOp, hop, hv]
          simp [Instr.sliceAt, Instr.slice, run_underlying (J1Q hel), hb, J2U ht]
          try simpa using e0
        · cases ht
      · cases hs
    · cases hs
theorem Jrz (hi : Inv s) (he : JQ s a.tmps env) {k x lo hi' mx} (h : (opR F (.slice k x lo hi' mx) new).run ⟨env, s.σ⟩ = some e) (hc : JA P (.slice k x lo hi' mx) o.op = true) : J0H P o a s e := by
  simp only [opR] at h
  obtain ⟨u, h1, h⟩ := bind_some h
  obtain ⟨l, h2, h⟩ := bind_some h
  obtain ⟨hh, h3, h⟩ := bind_some h
  obtain ⟨m, h4, h⟩ := bind_some h
  unfold JA at hc
  simp only at hc
  split at hc
  · rename_i t y lo2 hi2 mx2 hop
    simp only [Bool.and_eq_true] at hc
    obtain ⟨⟨⟨⟨hx, c1⟩, c2⟩, c3⟩, ht⟩ := hc
    have rx := JI he h1 hx
    rcases JbI he h4 c3 with ⟨rfl, rfl⟩ | ⟨um, qm, rfl, rfl, hum⟩
    case inr =>
      have hl0 : l = none → lo2 = none := by
        intro hl0
        rcases JbI he h2 c1 with ⟨_, e⟩ | ⟨u', q', e1, _, _⟩
        · exact e
        · rw [hl0] at e1; cases e1
      have hh0 : ∀ u', hh = some u' → ∃ q', hi2 = some q' ∧ Jr s u' (a.eval q') := by
        intro u' hu'
        rcases JbI he h3 c2 with ⟨e, _⟩ | ⟨u2, q', e1, e2, e3⟩
        · rw [hu'] at e; cases e
        · rw [hu'] at e1; injection e1 with e1; subst e1; exact ⟨q', e2, e3⟩
      split at h
      · rename_i b i n
        obtain ⟨y', h5, h⟩ := bind_some h
        obtain ⟨g', i1, t1, f1, c, hc1, rc⟩ := Jaa hi (.refl _) h5 rx
        split at h
        · rename_i c' hc'
          rw [hc1] at hc'; injection hc' with hc'; subst hc'
          split at h
          · rename_i r hr
            simp only [RM.run] at h; injection h with h; subst h
            exact Jp0 hi hop ht hl0 hh0 hum hr i1 t1 rc
          · cases h
        · cases h
      · rename_i x' hne
        obtain ⟨r, hr, rfl⟩ := J1N h
        cases u with
        | p c =>
          cases rx with
          | p _ _ rx => exact Jp0 (ws := []) (g' := s.g) hi hop ht hl0 hh0 hum hr hi (.refl s) rx
        | _ => cases k <;> simp [J4x, JpB] at hr
    have noMax : ∀ {c : AV} {r}, J4x k c l hh none = some r → (none : Option Operand) = none ∧ Jch k c l hh = some r := by
      intro c r hs
      exact ⟨rfl, hs⟩
    have strCase : ∀ {b : List UInt8} {r}, J4x k (.p (.s b)) l hh none = some r → a.eval y = .string ⟨b.toArray⟩ → J0H P o a s ⟨r, []⟩ := by
      intro b r hs hz
      obtain ⟨_, hq⟩ := noMax hs
      clear hs
      have hs := hq
      clear hq
      cases k with
      | sl esz => simp [Jch, J8m] at hs
      | str =>
        simp only [Jch, J2b] at hs
        split at hs
        · rename_i c hc
          injection hs with hs; subst hs
          have ht' := J7p ht
          obtain ⟨hb, hij, hjl⟩ := JdR (P := P) (isSlice := false) (cap := b.length) he h2 h3 c1 c2 hc (Nat.le_refl _) s.w
          have hex : (⟨b.toArray⟩ : ByteArray).extract c.1 c.2 = ⟨((b.drop c.1).take (c.2 - c.1)).toArray⟩ := by
            apply ByteArray.ext
            rw [ByteArray.data_extract]
            apply Array.ext'
            simp [List.extract]
          refine Js hi (v := .string ⟨((b.drop c.1).take (c.2 - c.1)).toArray⟩) ?_ (Jg9 _)
          simp only [execOp, hop, hz]
          simp [Instr.sliceAt, Instr.slice, run_underlying ht', J8G, hb, hex]
        · cases hs
    have slCase : ∀ {s' : Sn} {ws} {esz rows r} {g'}, s' = ⟨upd ws s.σ, g', s.w⟩ → Inv s' → JE s s' → J4x k (.p (.sl esz rows)) l hh none = some r → JJ s'.w s'.g.C (.sl esz rows) (a.eval y) → J0H P o a s ⟨r, ws⟩ := by
      intro s' ws esz rows r g' hs' hi' t' hs hr
      obtain ⟨_, hq⟩ := noMax hs
      clear hs
      have hs := hq
      clear hq
      cases k with
      | str => simp [Jch, J2b] at hs
      | sl ez =>
        simp only [Jch, J8m] at hs
        split at hs
        · rename_i hez; subst hez
          split at hs
          · rename_i c hc
            injection hs with hs; subst hs
            simp only at ht
            split at ht
            · rename_i el hel
              simp only [beq_iff_eq] at ht
              have hb0 := JdR (P := P) (isSlice := true) he h2 h3 c1 c2 hc (Nat.le_refl _) s.w
              obtain ⟨ad, cap, hv, hcap, hrel⟩ := Jqd hr hb0.2.1 hb0.2.2
              obtain ⟨hb, _, _⟩ := JdR (P := P) (isSlice := true) he h2 h3 c1 c2 hc hcap s.w
              subst hs'
              refine J23 (e := ⟨_, ws⟩) (w' := s.w) (g' := g') ?_ hi' t' (.p _ _ hrel)
              simp only [execOp, hop, hv]
              simp [Instr.sliceAt, Instr.slice, run_underlying (J1Q hel), hb, J2U ht]
            · cases ht
          · cases hs
        · cases hs
    split at h
    · rename_i b i n
      obtain ⟨y', h5, h⟩ := bind_some h
      obtain ⟨g', i1, t1, f1, c, hc1, rc⟩ := Jaa hi (.refl _) h5 rx
      split at h
      · rename_i c' hc'
        rw [hc1] at hc'; injection hc' with hc'; subst hc'
        split at h
        · rename_i r hr
          simp only [RM.run] at h; injection h with h; subst h
          have : ∃ ez rw, c = .sl ez rw := by
            simp only [fz, RM.run] at h5
            split at h5
            · split at h5
              · split at h5
                · simp only [RM.run] at h5; injection h5 with h5; subst h5
                  simp at hc1
                  exact ⟨_, _, hc1.symm⟩
                · cases h5
              · cases h5
            · cases h5
          obtain ⟨ez, rw', rfl⟩ := this
          exact slCase rfl i1 t1 hr rc
        · cases h
      · cases h
    · rename_i x' hne
      obtain ⟨r, hr, rfl⟩ := J1N h
      cases u with
      | p c =>
        cases c with
        | s b => exact strCase hr (Ja4 rx)
        | sl esz rows => cases rx with | p _ _ rx => exact slCase (s' := s) (ws := []) (g' := s.g) rfl hi (.refl s) hr rx
        | _ => obtain ⟨_, hr⟩ := noMax hr; cases k <;> simp [Jch, J2b, J8m] at hr
      | slr b i n => exact absurd rfl (hne b i n)
      | _ => obtain ⟨_, hr⟩ := noMax hr; cases k <;> simp [Jch, J2b, J8m] at hr
  · cases hc
end
end Go.Am
end
section
namespace Go.Am
section
variable {P : Program} {F : Orc} {s : Sn} {a : Act} {env : List (Nat × AV)} {o : Oper} {new : Nat} {e : Eff}
theorem JkG (hi : Inv s) {agg : Bool} {size : Nat} {x : AV} {v : Value} (h : (J1X agg size x).run ⟨env, s.σ⟩ = some e) (hr : Jr s x v) :
    ∃ r o vs, v = .pointer (some ⟨r, o, none⟩) ∧ vs.length = size ∧ (∀ (k : Nat) u, vs[k]? = some u → JY s.w r (o + k) = some u) ∧ e.ws = [] ∧
      ((agg = true ∧ Jr s e.val (.agg vs.toArray)) ∨ (agg = false ∧ ∃ u, vs = [u] ∧ Jr s e.val u)) := by
  unfold J1X at h
  split at h
  · rename_i cs off
    split at h
    · rename_i l hl
      obtain ⟨r', h3, rfl⟩ := J1N h
      obtain ⟨k1, k2, k3⟩ := Jdy hl
      cases hr with
      | cp _ _ r o vals p1 p2 =>
        have hg : ∀ (i : Nat) y u, l[i]? = some y → ((List.range size).map fun i => vals (off + i))[i]? = some u → JJ s.w s.g.C y u := by
          intro i y u hy hu
          have := Jb hy
          rw [k3 i (by omega)] at hy
          rw [List.getElem?_map, List.getElem?_range (by omega)] at hu
          injection hu with hu; subst hu
          exact p2 _ y hy
        refine ⟨r, o + off, (List.range size).map fun i => vals (off + i), rfl, by simp, fun k u hu => ?_, rfl, JjY h3 (by simp [k1]) hg⟩
        have hlt := Jb hu
        simp at hlt
        rw [List.getElem?_map, List.getElem?_range hlt] at hu
        injection hu with hu; subst hu
        have : off + k < cs.length := by omega
        have := (p1 (off + k) _ (List.getElem?_eq_getElem this)).2
        rwa [Nat.add_assoc]
    · cases h
  · rename_i b off
    simp only [RM.run] at h
    split at h
    · rename_i blk hb
      split at h
      · rename_i cs
        split at h
        · rename_i l hl
          obtain ⟨r', h3, rfl⟩ := J1N h
          obtain ⟨k1, k2, k3⟩ := Jdy hl
          cases hr with
          | ptr _ _ r o m hbx =>
            obtain ⟨r1, o1, c, e1, fz, m', hh, hle, hx, hf⟩ := hi.box b cs hb
            rw [m] at m'; injection m' with m'; injection m' with m1 m2; subst m1 m2
            have hcell : ∀ k, k < size → ∃ u, c[o + (off + k)]? = some u ∧ u.oneCell' = true ∧ ∀ y, l[k]? = some y → Jr s y u := by
              intro k hk
              have hlt : off + k < cs.length := by omega
              obtain ⟨u, hu, hr, h1⟩ := hx (off + k) _ (List.getElem?_eq_getElem hlt)
              refine ⟨u, hu, h1, fun y hy => ?_⟩
              rw [k3 k hk, List.getElem?_eq_getElem hlt] at hy
              injection hy with hy; subst hy; exact hr
            refine ⟨r, o + off, (List.range size).map fun i => (c[o + (off + i)]?).getD .nilFunc, rfl, by simp, fun k u hu => ?_, rfl, JiZ h3 (by simp [k1]) (fun v hv => ?_) fun i y u hy hu => ?_⟩
            · have hlt := Jb hu
              simp at hlt
              rw [List.getElem?_map, List.getElem?_range hlt] at hu
              obtain ⟨u', hu', _⟩ := hcell k hlt
              simp [hu'] at hu; subst hu
              rw [J1Y hh, ← hu', Nat.add_assoc]
            · obtain ⟨i, hi', rfl⟩ := List.mem_map.1 hv
              obtain ⟨u', hu', h1, _⟩ := hcell i (by simpa using hi')
              simpa [hu'] using h1
            · have hlt := Jb hy
              rw [List.getElem?_map, List.getElem?_range (by omega)] at hu
              obtain ⟨u', hu', _, h2⟩ := hcell i (by omega)
              simp [hu'] at hu; subst hu
              exact h2 y hy
        · cases h
      · cases h
    · cases h
  · rename_i b ext i off
    simp only [RM.run] at h
    split at h
    · rename_i blk hb
      split at h
      · rename_i wm esz rows
        split at h
        · rename_i hext
          split at h
          · rename_i row hrow
            split at h
            · rename_i l hl
              obtain ⟨r', h3, rfl⟩ := J1N h
              obtain ⟨k1, k2, k3⟩ := Jdy hl
              have hb' : s.σ[b]? = some (.arr wm esz rows) := hb
              cases hr with
              | ep _ _ _ _ _ wm' esz' rows' p0 p1 p2 p3 =>
                rw [hb'] at p1; injection p1 with p1; injection p1 with a1 a2 a3; subst a1 a2 a3
                have hlt := Jb hrow
                obtain ⟨r, m, hv⟩ := p3 hext (by omega)
                rcases hi.arr b _ _ _ hb' with ⟨m', _⟩ | ⟨r1, c, e1, fz, m', hh, hrl, hle, hx, hf⟩
                · rw [m] at m'; cases m'
                · rw [m] at m'; injection m' with m'; injection m' with m1 _; subst m1
                  have hcell : ∀ k, k < size → ∃ u, c[i * esz + (off + k)]? = some u ∧ ∀ y, l[k]? = some y → JJ s.w s.g.C y u := by
                    intro k hk
                    have hlt : off + k < row.length := by omega
                    obtain ⟨⟨u, hu, hr⟩, _⟩ := hx i (off + k) row _ hrow (List.getElem?_eq_getElem hlt)
                    refine ⟨u, hu, fun y hy => ?_⟩
                    rw [k3 k hk, List.getElem?_eq_getElem hlt] at hy
                    injection hy with hy; subst hy; exact hr
                  refine ⟨r, i * esz + off, (List.range size).map fun k => (c[i * esz + (off + k)]?).getD .nilFunc, hv, by simp, fun k u hu => ?_, rfl, JjY h3 (by simp [k1]) fun k y u hy hu => ?_⟩
                  · have hlt := Jb hu
                    simp at hlt
                    rw [List.getElem?_map, List.getElem?_range hlt] at hu
                    obtain ⟨u', hu', _⟩ := hcell k hlt
                    simp [hu'] at hu; subst hu
                    rw [J1Y hh, ← hu', Nat.add_assoc]
                  · have hlt := Jb hy
                    rw [List.getElem?_map, List.getElem?_range (by omega)] at hu
                    obtain ⟨u', hu', h2⟩ := hcell k (by omega)
                    simp [hu'] at hu; subst hu
                    exact h2 y hy
            · cases h
          · cases h
        · cases h
      · cases h
    · cases h
  · cases h
theorem JgW {t : TypeId} {agg : Bool} {size : Nat} (ht : agT P t = some agg) (hs : szT P t = some size) {r o : Nat} {vs : List Value} {w : World} (hl : vs.length = size)
    (h : ∀ (k : Nat) u, vs[k]? = some u → JY w r (o + k) = some u) :
    (agg = true → (loadVar t ⟨r, o, none⟩).run P w = .ok (.agg vs.toArray) w) ∧ (agg = false → ∀ u, vs = [u] → (loadVar t ⟨r, o, none⟩).run P w = .ok u w) := by
  constructor
  · rintro rfl
    subst hl
    simp [loadVar, JbJ ht, J2U hs, Jkm vs h]
  · rintro rfl u rfl
    have := h 0 u rfl
    simp [loadVar, JbJ ht, run_load, J55, this]
    simp at this
    simp [this]
theorem JtS (hi : Inv s) (he : JQ s a.tmps env) {agg size x} (h : (opR F (.load agg size x) new).run ⟨env, s.σ⟩ = some e) (hc : JA P (.load agg size x) o.op = true) : J0H P o a s e := by
  simp only [opR] at h
  obtain ⟨u, h1, h'⟩ := bind_some h
  clear h
  unfold JA at hc
  simp only at hc
  split at hc
  · rename_i t y hop
    simp only [Bool.and_eq_true, beq_iff_eq] at hc
    obtain ⟨⟨⟨ht, hs⟩, hx⟩, h7⟩ := hc
    obtain ⟨r, o', vs, hv, hl, hcell, hws, hor⟩ := JkG hi h' (JI he h1 hx)
    obtain ⟨k1, k2⟩ := JgW (P := P) ht hs hl hcell
    obtain ⟨ev, ew⟩ := e
    simp only at hws hor
    subst hws
    rcases hor with ⟨rfl, hr⟩ | ⟨rfl, q, rfl, hr⟩
    · exact Js hi (v := .agg vs.toArray) (by simp [execOp, hop, hv, Instr.loadAt, Instr.sureAddr, k1]) hr
    · exact Js hi (v := q) (by simp [execOp, hop, hv, Instr.loadAt, Instr.sureAddr, k2]) hr
  · cases hc
theorem JaM {x : AV} {l : List AV} {v : Value} (h : cellsOf x = some l) (hr : Jr s x v) :
    l.length = v.cells.size ∧ (∀ u ∈ v.cells.toList, u.oneCell' = true) ∧ ∀ (i : Nat) y u, l[i]? = some y → v.cells[i]? = some u → Jr s y u := by
  have single : ∀ {z : AV}, Jr s z v → v.cells = #[v] → v.oneCell' = true → l = [z] → l.length = v.cells.size ∧ (∀ u ∈ v.cells.toList, u.oneCell' = true) ∧ ∀ (i : Nat) y u, l[i]? = some y → v.cells[i]? = some u → Jr s y u := by
    rintro z hz hc h1 rfl
    refine ⟨by rw [hc]; rfl, by rw [hc]; simpa using h1, fun i y u hy hu => ?_⟩
    rw [hc] at hu
    cases i with
    | zero => simp at hy hu; subst hy hu; exact hz
    | succ i => simp at hy
  cases hr with
  | p c _ hp => simp [cellsOf] at h; exact single (.p _ _ hp) hp.cells1 hp.one h.symm
  | data cs vs h1 h2 =>
    simp [cellsOf] at h; subst h
    refine ⟨by simpa [Value.cells] using h1, fun u hu => ?_, fun i y u hy hu => ?_⟩
    · obtain ⟨i, hi⟩ := List.getElem?_of_mem hu
      have hi : vs[i]? = some u := by simpa [Value.cells] using hi
      have hlt := JbE hi
      exact (h2 i cs[i] u (by rw [List.getElem?_eq_getElem]) hi).one
    · rw [List.getElem?_map] at hy
      cases hcs : cs[i]? with
      | none => simp [hcs] at hy
      | some c =>
        simp [hcs] at hy; subst hy
        exact .p _ _ (h2 i c u hcs hu)
  | agg cs vs h1 h0 h2 =>
    simp [cellsOf] at h; subst h
    refine ⟨by simpa [Value.cells] using h1, fun u hu => ?_, fun i y u hy hu => h2 i y u hy hu⟩
    obtain ⟨i, hi⟩ := List.getElem?_of_mem hu
    exact h0 i u (by simpa [Value.cells] using hi)
  | tup => simp [cellsOf] at h
  | unk => simp [cellsOf] at h
  | ptr b off r o m hb => simp [cellsOf] at h; exact single (.ptr b off r o m hb) rfl rfl h.symm
  | cp cs off r o vals p1 p2 => simp [cellsOf] at h; exact single (.cp cs off r o vals p1 p2) rfl rfl h.symm
  | slr b i n _ wm esz rows p0 p1 p2 p3 =>
    obtain ⟨ad, cap, rfl, hn⟩ := p0
    simp [cellsOf] at h
    exact single (.slr b i n _ wm esz rows ⟨ad, cap, rfl, hn⟩ p1 p2 p3) rfl rfl h.symm
  | ep b ext i off _ wm esz rows p0 p1 p2 p3 =>
    obtain ⟨r, o, rfl⟩ := p0
    simp [cellsOf] at h
    exact single (.ep b ext i off _ wm esz rows ⟨r, o, rfl⟩ p1 p2 p3) rfl rfl h.symm
  | fn f first caps fs cs h1 h2 h3 h4 => simp [cellsOf] at h; exact single (.fn f first caps fs cs h1 h2 h3 h4) rfl rfl h.symm
theorem JvC (hi : Inv s) (he : JQ s a.tmps env) (hn : s.σ[new]? = some .dead) {size x} (h : (opR F (.box size x) new).run ⟨env, s.σ⟩ = some e) (hc : JA P (.box size x) o.op = true) : J0H P o a s e := by
  simp only [opR] at h
  obtain ⟨u, h1, h'⟩ := bind_some h
  clear h
  unfold JA at hc
  simp only at hc
  split at hc
  · rename_i t y hop
    have hr := JI he h1 hc
    split at h'
    · rename_i cs hcs
      split at h'
      · simp only [RM.run] at h'; injection h' with h'; subst h'
        obtain ⟨k1, k2, k3⟩ := JaM hcs hr
        obtain ⟨i', t'⟩ := Jg8 hi hn (blk := .box cs) (c := (a.eval y).cells) (e := t) (fz := (0, 0)) (w' := { s.w with heap := s.w.heap.push (.cells (a.eval y).cells t) }) rfl rfl rfl
          (fun o _ _ h => by simp at h) (fun _ _ _ h => by cases h) ⟨by omega, fun i x hx => by
            have hlt := Jb hx
            have hlt' : i < (a.eval y).cells.size := by omega
            exact ⟨(a.eval y).cells[i], by simp, k3 i x _ hx (by simp), k2 _ (by simp)⟩⟩
        refine J23 (e := ⟨.ptr new 0, [(new, .box cs)]⟩) (v := .pointer (some ⟨s.w.heap.size, 0, none⟩)) ?_ i' t' (.ptr new 0 _ 0 (if_pos rfl) ⟨cs, J0a hn⟩)
        simp [execOp, hop, Instr.box, newVar, newRow]
      · cases h'
    · cases h'
  · cases hc
theorem J5w {zero : List PV} {t : TypeId} (h : Ja3 P zero t = true) : ∃ v, zeT P t = some v ∧ zero.length = v.cells.size ∧
    ∀ {w C} (i : Nat) x u, zero[i]? = some x → v.cells[i]? = some u → JJ w C x u := by
  unfold Ja3 at h
  split at h
  · rename_i v hv
    refine ⟨v, hv, ?_, fun i x u hx hu => ?_⟩
    · simpa using (Jef (w := default) (C := fun _ _ => True) h).1
    · exact (Jef h).2 i x u hx (by simpa using hu)
  · cases h
theorem JaG {t : TypeId} {v : Value} (h : zeT P t = some v) (w : World) : (zeroValue t).run P w = .ok v w := by
  unfold zeT at h
  cases hi : P.info? t with
  | none => rw [hi] at h; cases h
  | some i => rw [hi] at h; simp at h; simp [zeroValue, Jfz hi, h]
theorem Jqw (hi : Inv s) (hn : s.σ[new]? = some .dead) {zero} (h : (opR F (.newbox zero) new).run ⟨env, s.σ⟩ = some e) (hc : JA P (.newbox zero) o.op = true) : J0H P o a s e := by
  simp only [opR, RM.run] at h
  injection h with h; subst h
  unfold JA at hc
  simp only at hc
  split at hc
  · rename_i t hop
    obtain ⟨v, hv, hl, hr⟩ := J5w hc
    obtain ⟨i', t'⟩ := Jg8 hi hn (blk := .box (zero.map .p)) (c := v.cells) (e := t) (fz := (0, 0)) (w' := { s.w with heap := s.w.heap.push (.cells v.cells t) }) rfl rfl rfl
      (fun o _ _ h => by simp at h) (fun _ _ _ h => by cases h) ⟨by simp [hl], fun i x hx => by
        rw [List.getElem?_map] at hx
        cases hz : zero[i]? with
        | none => simp [hz] at hx
        | some c =>
          simp [hz] at hx; subst hx
          have hlt := Jb hz
          have hlt' : i < v.cells.size := by omega
          have := hr (w := s.w) (C := s.g.C) i c v.cells[i] hz (by simp)
          exact ⟨v.cells[i], by simp, .p _ _ this, this.one⟩⟩
    refine J23 (e := ⟨.ptr new 0, [(new, .box (zero.map .p))]⟩) (v := .pointer (some ⟨s.w.heap.size, 0, none⟩)) ?_ i' t' (.ptr new 0 _ 0 (if_pos rfl) ⟨_, J0a hn⟩)
    simp [execOp, hop, Instr.alloc, JaG hv, newVar, newRow]
  · cases hc
theorem JrA (hi : Inv s) (hn : s.σ[new]? = some .dead) {esz x} (h : (opR F (.mkarr esz x) new).run ⟨env, s.σ⟩ = some e) (hc : JA P (.mkarr esz x) o.op = true) : J0H P o a s e := by
  simp only [opR, RM.run] at h
  injection h with h; subst h
  obtain ⟨i', t'⟩ := Jgc hi hn esz
  have hrel : Jr ⟨s.σ.set new (.arr true esz []), J5W s.g new none, s.w⟩ (.slr new 0 0) (.slice none 0 0) :=
    .slr new 0 0 _ true esz [] ⟨none, 0, rfl, .inl rfl⟩ (J0a hn) (Nat.le_refl _) fun _ => .inl ⟨if_pos rfl, rfl, rfl, rfl⟩
  unfold JA at hc
  simp only at hc
  split at hc
  · rename_i hop
    exact J23 (e := ⟨.slr new 0 0, [(new, .arr true esz [])]⟩) (v := .slice none 0 0) (by simp only [execOp, hop]; rfl) i' t' hrel
  · rename_i hop
    exact J23 (e := ⟨.slr new 0 0, [(new, .arr true esz [])]⟩) (v := .slice none 0 0) (by simp only [execOp, hop]; rfl) i' t' hrel
  · cases hc
theorem Jgb {α : Type} {cs vs cs' : List α} {off : Nat} (h : spl cs off vs = some cs') : cs'.length = cs.length ∧ off + vs.length ≤ cs.length ∧
    (∀ (i : Nat), i < vs.length → cs'[off + i]? = vs[i]?) ∧ ∀ k, (k < off ∨ off + vs.length ≤ k) → cs'[k]? = cs[k]? := by
  unfold spl at h
  split at h
  · rename_i hc
    injection h with h; subst h
    obtain ⟨rfl, hl⟩ := hc
    refine ⟨hl.symm, by omega, fun i _ => by rw [Nat.zero_add], fun k hk => ?_⟩
    rw [List.getElem?_eq_none (by omega), List.getElem?_eq_none (by omega)]
  · split at h
    · rename_i hc
      injection h with h; subst h
      refine ⟨by simp; omega, hc, fun i hi => ?_, fun k hk => ?_⟩
      · rw [List.append_assoc, List.getElem?_append_right (by simp; omega), List.getElem?_append_left (by simp; omega)]
        simp
        congr 1
        omega
      · rcases hk with hk | hk
        · rw [List.append_assoc, List.getElem?_append_left (by simp; omega), List.getElem?_take, if_pos hk]
        · rw [List.getElem?_append_right (by simp; omega), List.getElem?_drop]
          congr 1
          simp; omega
    · cases h
theorem JpX {w : World} {r o : Nat} {vs : List Value} {c : Array Value} {et : TypeId} {fz : Nat × Nat} (hh : w.heap[r]? = some (.cells c et fz)) (hl : o + vs.length ≤ c.size)
    (hf : JjL fz o (o + vs.length)) (h1 : ∀ v ∈ vs, v.oneCell' = true) : (storeCells ⟨r, o, none⟩ vs).run P w = .ok () (w.setCells r o vs) := by
  have := run_storeCells_cells (P := P) r o vs 0 w
    (fun j hj => by rw [J55, J1Y hh]; simp; omega)
    (fun j hj => by
      have := hf (o + 0 + j) (by omega) (by omega)
      simp only [World.frozen?, hh]
      simpa using this) h1
  simpa using this
theorem Jcm {t : TypeId} {v : Value} {w : World} {r o : Nat} {c : Array Value} {et : TypeId} {fz : Nat × Nat} (hs : szT P t = some v.cells.size) (hh : w.heap[r]? = some (.cells c et fz)) (hl : o + v.cells.size ≤ c.size)
    (hf : JjL fz o (o + v.cells.size)) (h1 : ∀ u ∈ v.cells.toList, u.oneCell' = true) : (storeVar t ⟨r, o, none⟩ v).run P w = .ok () (w.setCells r o v.cells.toList) := by
  have := JpX (P := P) (vs := v.cells.toList) hh (by simpa using hl) (by simpa using hf) h1
  simp [storeVar, J2U hs, this]
theorem JfO {o : Oper} {e : Eff} {w' : World} {g' : Gh} (hr : (execOp a.eval o).run P s.w = .ok .skip w') (hev : e.val = J0P)
    (hi : Inv ⟨upd e.ws s.σ, g', w'⟩) (t : JE s ⟨upd e.ws s.σ, g', w'⟩) : J0H P o a s e := by
  intro next Q h
  simp only [Oper.wp, hr, Oper.upon]
  exact h undef w' g' hi t (by rw [hev]; exact .tup _ _ rfl fun i x v h => by simp at h)
theorem Jrg {b : Nat} : ∀ {ws : List (Nat × Blk)} {σ : List Blk}, (ws.all fun y => y.1 != b) = true → (upd ws σ)[b]? = σ[b]?
  | [], _, _ => rfl
  | y :: ws, σ, h => by
    simp only [List.all_cons, Bool.and_eq_true, bne_iff_ne] at h
    show (upd ws (σ.set y.1 y.2))[b]? = _
    rw [Jrg h.2, JD h.1]
theorem Jsv (hi : Inv s) (he : JQ s a.tmps env) {size x y} (h : (opR F (.store size x y) new).run ⟨env, s.σ⟩ = some e) (hc : JA P (.store size x y) o.op = true) : J0H P o a s e := by
  simp only [opR] at h
  obtain ⟨u, h1, h'⟩ := bind_some h
  obtain ⟨v, h2, h''⟩ := bind_some h'
  clear h h'
  unfold JA at hc
  simp only at hc
  split at hc
  · rename_i t x' y' hop
    simp only [Bool.and_eq_true, beq_iff_eq] at hc
    obtain ⟨⟨hs, hx⟩, hy⟩ := hc
    have rx := JI he h1 hx
    have ry := JI he h2 hy
    have hex : ∀ {r o' : Nat} {w' : World}, a.eval x' = .pointer (some ⟨r, o', none⟩) → (storeVar t ⟨r, o', none⟩ (a.eval y')).run P s.w = .ok () w' → (execOp a.eval o).run P s.w = .ok .skip w' := by
      intro r o' w' hz hst
      simp [execOp, hop, hz, Instr.storeAt, Instr.sureAddr, hst]
    unfold J1x at h''
    split at h''
    · rename_i b off
      simp only [RM.run] at h''
      split at h''
      · rename_i blk hb
        split at h''
        · rename_i cs
          split at h''
          · rename_i l hl
            split at h''
            · rename_i hsz
              split at h''
              · rename_i cs' hcs'
                simp only [RM.run] at h''; injection h'' with h''; subst h''
                have hb : s.σ[b]? = some (.box cs) := hb
                generalize hz : a.eval x' = z at rx
                cases rx with
                | ptr _ _ r o' m hbx =>
                  obtain ⟨k1, k2, k3⟩ := JaM hl ry
                  obtain ⟨j1, j2, j3, j4⟩ := Jgb hcs'
                  obtain ⟨r1, o1, c, e1, fz, m', hh, hle, hxx, hf⟩ := hi.box b cs hb
                  rw [m] at m'; injection m' with m'; injection m' with m1 m2; subst m1 m2
                  have hput := J8o (vs := (a.eval y').cells.toList) (o := o' + off) hh (by simp; omega)
                  have hlen : (a.eval y').cells.toList.length = l.length := by simp [k1]
                  obtain ⟨i', t'⟩ := JfQ hi (blk := .box cs') hb hput (fun k h1 h2 => by
                      unfold Wr1; rw [hb]; exact ⟨o', m, by omega, by omega⟩) (.box _ _ j1) (fun cs0 heq mono => by
                      injection heq with heq; subst heq
                      obtain ⟨c0, e0, fz0, c', p1, p2, p3, p4, p5, p6⟩ := hput.there
                      rw [hh] at p1; injection p1 with p1; injection p1 with q1 q2 q3; subst q1 q2 q3
                      refine ⟨r, o', c', e1, fz, m, p2, by omega, fun i x hxi => ?_, by rw [j1]; exact hf⟩
                      by_cases hin : off ≤ i ∧ i < off + l.length
                      · have e1 : cs'[off + (i - off)]? = l[i - off]? := j3 (i - off) (by omega)
                        rw [show off + (i - off) = i by omega, hxi] at e1
                        have hlt : i - off < (a.eval y').cells.size := by omega
                        have e2 := p5 (i - off) (a.eval y').cells[i - off] (by simp)
                        refine ⟨(a.eval y').cells[i - off], by rw [← e2]; congr 1; omega, mono (k3 (i - off) x _ e1.symm (by simp)), k2 _ (by simp)⟩
                      · rw [j4 i (by omega)] at hxi
                        obtain ⟨v', hv', hr', h1'⟩ := hxx i x hxi
                        exact ⟨v', by rw [p6 _ (by simp; omega)]; exact hv', mono hr', h1'⟩)
                      (fun _ _ heq => by cases heq)
                  refine JfO (e := ⟨J0P, [(b, .box cs')]⟩) (hex hz (Jcm (by rw [hs, ← hsz, k1]) hh (by omega) (fun k h1 h2 => hf k (by omega) (by omega)) k2)) rfl i' t'
              · cases h''
            · cases h''
          · cases h''
        · cases h''
      · cases h''
    · rename_i b ext i off
      simp only [RM.run] at h''
      split at h''
      · rename_i blk hb
        split at h''
        · rename_i esz rows
          split at h''
          · rename_i hext
            split at h''
            · rename_i row hrow
              obtain ⟨y2, h3, h4⟩ := bind_some h''
              split at h4
              · rename_i hcond
                split at h4
                · rename_i row' hrow'
                  simp only [RM.run] at h4; injection h4 with h4; subst h4
                  have hb : s.σ[b]? = some (.arr true esz rows) := hb
                  obtain ⟨hsz, hall⟩ := hcond
                  obtain ⟨g1, i1, t1, f1, l1, r1⟩ := Jmz hi (.refl _) h3 ry
                  have hb1 : (upd y2.2 s.σ)[b]? = some (.arr true esz rows) := by rw [Jrg hall]; exact hb
                  have rx1 := rx.mono hi t1
                  obtain ⟨j1, j2, j3, j4⟩ := Jgb hrow'
                  have hone : ∀ u ∈ (a.eval y').cells.toList, u.oneCell' = true := by
                    intro u hu
                    obtain ⟨k, hk⟩ := List.getElem?_of_mem hu
                    have hk : (a.eval y').cells[k]? = some u := by simpa using hk
                    have hlt := JbE hk
                    exact (r1 k y2.1[k] u (by rw [List.getElem?_eq_getElem]) hk).one
                  generalize hz : a.eval x' = z at rx1
                  cases rx1 with
                  | ep _ _ _ _ _ wm' esz' rows' p0 p1 p2 p3 =>
                    have p1 : (upd y2.2 s.σ)[b]? = some (.arr wm' esz' rows') := p1
                    rw [hb1] at p1; injection p1 with p1; injection p1 with a1 a2 a3; subst a1 a2 a3
                    have hlt := Jb hrow
                    obtain ⟨r, m, hv⟩ := p3 hext (by omega)
                    rcases i1.arr b _ _ _ hb1 with ⟨m', _⟩ | ⟨rr, c, e1, fz, m', hh, hrl, hle, hxx, hf⟩
                    · rw [m] at m'; cases m'
                    · rw [m] at m'; injection m' with m'; injection m' with m1 _; subst m1
                      have hrlen := hrl row (JV hrow)
                      have hlen : (a.eval y').cells.toList.length = y2.1.length := by simp [l1]
                      have hbnd : i * esz + esz ≤ rows.length * esz := by
                        have := Nat.mul_le_mul_right esz (show i + 1 ≤ rows.length from hlt)
                        rwa [Nat.add_mul, Nat.one_mul] at this
                      have hh' : s.w.heap[r]? = some (.cells c e1 fz) := hh
                      have hput := J8o (vs := (a.eval y').cells.toList) (o := i * esz + off) hh' (by rw [hlen]; omega)
                      obtain ⟨i2, t2⟩ := JfQ (s0 := ⟨upd y2.2 s.σ, g1, s.w⟩) i1 (blk := .arr true esz (rows.set i row')) hb1 hput (fun k h1 h2 => by
                          unfold Wr1; rw [hb1]; exact ⟨0, m⟩) (.arr _ _ _ (by simp)) (fun _ heq => by cases heq) (fun esz0 rows0 heq mono => by
                          injection heq with _ h1 h2; subst h1 h2
                          obtain ⟨c0, e0, fz0, c', q1, q2, q3, q4, q5, q6⟩ := hput.there
                          rw [hh'] at q1; injection q1 with q1; injection q1 with w1 w2 w3; subst w1 w2 w3
                          refine .inr ⟨r, c', e1, fz, m, q2, fun rw0 hrw => ?_, by simp; omega, fun k j row0 x0 hk hj => ⟨?_, fun h => by cases h⟩, by rw [q3]; exact hf⟩
                          · rcases List.mem_or_eq_of_mem_set hrw with hm | hm
                            · exact hrl _ hm
                            · subst hm; omega
                          · have hjlt := Jb hj
                            by_cases hki : k = i
                            · subst hki
                              rw [List.getElem?_set_self hlt] at hk
                              injection hk with hk; subst hk
                              by_cases hin : off ≤ j ∧ j < off + y2.1.length
                              · have e1 := j3 (j - off) (by omega)
                                rw [show off + (j - off) = j by omega, hj] at e1
                                have hlt' : j - off < (a.eval y').cells.size := by omega
                                have e2 := q5 (j - off) (a.eval y').cells[j - off] (by simp)
                                refine ⟨(a.eval y').cells[j - off], by rw [← e2]; congr 1; omega, mono (r1 (j - off) x0 _ e1.symm (by simp))⟩
                              · rw [j4 j (by omega)] at hj
                                obtain ⟨⟨v', hv', hr'⟩, _⟩ := hxx k j row x0 hrow hj
                                exact ⟨v', by rw [q6 _ (by rw [hlen]; omega)]; exact hv', mono hr'⟩
                            · rw [List.getElem?_set_ne (Ne.symm hki)] at hk
                              obtain ⟨⟨v', hv', hr'⟩, _⟩ := hxx k j row0 x0 hk hj
                              refine ⟨v', ?_, mono hr'⟩
                              rw [q6 _ ?_]
                              · exact hv'
                              · have hj0 : j < esz := by rw [hrl _ (JV hk)] at hjlt; exact hjlt
                                rw [hlen]
                                rcases Nat.lt_or_ge k i with hlt' | hge
                                · left
                                  have := J4X hlt' hj0
                                  omega
                                · right
                                  have := Nat.mul_le_mul_right esz (show i + 1 ≤ k by omega)
                                  rw [Nat.add_mul, Nat.one_mul] at this
                                  omega)
                      refine JfO (e := ⟨J0P, y2.2 ++ [(b, .arr true esz (rows.set i row'))]⟩) (g' := g1) (hex (hz.trans hv) (Jcm (by rw [hs, ← hsz, l1]) hh' (by simp at hlen; omega) (fun k h1 h2 => hf.1 k (by omega) (by simp at hlen; omega)) hone)) rfl ?_ ?_
                      · rw [J2j]; exact i2
                      · rw [J2j]; exact t1.trans t2
                · cases h4
              · cases h4
            · cases h''
          · cases h''
        · cases h''
      · cases h''
    · cases h''
  · cases hc
end
end Go.Am
end
section
namespace Go.Am
theorem JnX (vs : List Value) : ∀ (k : Nat) (off : Nat) (cs : Array Value), off + k + vs.length ≤ cs.size →
    let r := (vs.zipIdx k).foldl (fun cs (x : Value × Nat) => cs.setIfInBounds (off + x.2) x.1) cs
    r.size = cs.size ∧ (∀ (j : Nat) v, vs[j]? = some v → r[off + k + j]? = some v) ∧ ∀ i, (i < off + k ∨ off + k + vs.length ≤ i) → r[i]? = cs[i]? := by
  induction vs with
  | nil => intro k off cs _; exact ⟨rfl, fun j v h => by simp at h, fun _ _ => rfl⟩
  | cons v vs ih =>
    intro k off cs h
    simp only [List.length_cons] at h
    have := ih (k + 1) off (cs.setIfInBounds (off + k) v) (by simp; omega)
    simp only [List.zipIdx_cons, List.foldl_cons]
    obtain ⟨h1, h2, h3⟩ := this
    refine ⟨by rw [h1]; simp, fun j u hj => ?_, fun i hi => ?_⟩
    · cases j with
      | zero =>
        simp at hj; subst hj
        rw [h3 _ (.inl (by omega))]
        have : off + k < cs.size := by omega
        simp [this]
      | succ j => rw [← h2 j u (by simpa using hj)]; congr 1; omega
    · rw [h3 i (by simp at hi; omega), Array.getElem?_setIfInBounds, if_neg (by simp at hi; omega)]
section
variable {P : Program} {F : Orc} {s : Sn} {a : Act} {env : List (Nat × AV)} {o : Oper} {new : Nat} {e : Eff}
theorem JkK {place : Nat → Option (Nat × Nat)} {cells : Array Value} {i : Nat} {v : Value} {rest : List (Nat × Value)} {off size : Nat} (hp : place i = some (off, size)) (hs : v.cells.size = size) (hl : off + size ≤ cells.size) :
    ∃ cells' : Array Value, Instr.fill place cells ((i, v) :: rest) = Instr.fill place cells' rest ∧ cells'.size = cells.size ∧ (∀ (j : Nat) u, v.cells[j]? = some u → cells'[off + j]? = some u) ∧
      ∀ k, (k < off ∨ off + size ≤ k) → cells'[k]? = cells[k]? := by
  subst hs
  obtain ⟨h1, h2, h3⟩ := JnX v.cells.toList 0 off cells (by simp; omega)
  refine ⟨v.cells.zipIdx.foldl (fun cs (c, j) => cs.setIfInBounds (off + j) c) cells, ?_, ?_, ?_, ?_⟩
  · simp only [Instr.fill, hp]
    rw [if_neg]
    simp; omega
  all_goals (have hz : v.cells.zipIdx.foldl (fun cs (x : Value × Nat) => cs.setIfInBounds (off + x.2) x.1) cells = (v.cells.toList.zipIdx 0).foldl (fun cs (x : Value × Nat) => cs.setIfInBounds (off + x.2) x.1) cells := by
               rw [← Array.foldl_toList]; simp)
  · rw [hz, h1]
  · intro j u hj; rw [hz]; have := h2 j u (by simpa using hj); simpa using this
  · intro k hk; rw [hz]; exact h3 k (by simpa using hk)
theorem JhG {place : Nat → Option (Nat × Nat)} : ∀ {parts : List (Nat × Nat × List AV)} {ps : List (Nat × Value)} {cs cs' : List AV} {cells : Array Value},
    J0W parts cs = some cs' → parts.length = ps.length →
    (∀ (k : Nat) off size l i v, parts[k]? = some (off, size, l) → ps[k]? = some (i, v) → place i = some (off, size) ∧ l.length = v.cells.size ∧ (∀ u ∈ v.cells.toList, u.oneCell' = true) ∧
      ∀ (j : Nat) y u, l[j]? = some y → v.cells[j]? = some u → Jr s y u) →
    cs.length = cells.size → (∀ (i : Nat) x, cs[i]? = some x → ∃ u, cells[i]? = some u ∧ Jr s x u ∧ u.oneCell' = true) →
    ∃ cells', Instr.fill place cells ps = some cells' ∧ cs'.length = cells'.size ∧ ∀ (i : Nat) x, cs'[i]? = some x → ∃ u, cells'[i]? = some u ∧ Jr s x u ∧ u.oneCell' = true
  | [], [], cs, cs', cells, h, _, _, hl, hr => by
    simp [J0W] at h; subst h
    exact ⟨cells, rfl, hl, hr⟩
  | [], _ :: _, _, _, _, _, hl, _, _, _ => by simp at hl
  | _ :: _, [], _, _, _, _, hl, _, _, _ => by simp at hl
  | (off, size, l) :: parts, (i, v) :: ps, cs, cs', cells, h, hlen, hp, hl, hr => by
    unfold J0W at h
    split at h
    · rename_i hsz
      split at h
      · rename_i cs1 hcs1
        obtain ⟨p1, p2, p3, p4⟩ := hp 0 off size l i v rfl rfl
        obtain ⟨j1, j2, j3, j4⟩ := Jgb hcs1
        obtain ⟨cells1, f1, f2, f3, f4⟩ := JkK (v := v) (rest := ps) (cells := cells) p1 (by omega) (by omega)
        obtain ⟨cells', g1, g2, g3⟩ := JhG (cells := cells1) h (by simpa using hlen) (fun k off size l i v h1 h2 => hp (k + 1) off size l i v (by simpa using h1) (by simpa using h2)) (by omega) (fun k x hk => by
          by_cases hin : off ≤ k ∧ k < off + l.length
          · have e1 := j3 (k - off) (by omega)
            rw [show off + (k - off) = k by omega, hk] at e1
            have hlt : k - off < v.cells.size := by omega
            have e2 := f3 (k - off) v.cells[k - off] (by simp)
            exact ⟨v.cells[k - off], by rw [← e2]; congr 1; omega, p4 (k - off) x _ e1.symm (by simp), p3 _ (by simp)⟩
          · rw [j4 k (by omega)] at hk
            obtain ⟨u, hu, hr', h1⟩ := hr k x hk
            exact ⟨u, by rw [f4 k (by omega)]; exact hu, hr', h1⟩)
        exact ⟨cells', by rw [f1]; exact g1, g2, g3⟩
      · cases h
    · cases h
theorem Jea (he : JQ s a.tmps env) {place : Nat → Option (Nat × Nat)} : ∀ {parts : List (Nat × Nat × Opd)} {ps : List (Nat × Operand)} {l : List (Nat × Nat × List AV)},
    (J2w parts).run ⟨env, s.σ⟩ = some l → J6P place parts ps = true →
    l.length = (ps.map fun x => (x.1, a.eval x.2)).length ∧
    ∀ (k : Nat) off size cs i v, l[k]? = some (off, size, cs) → (ps.map fun x => (x.1, a.eval x.2))[k]? = some (i, v) → place i = some (off, size) ∧ cs.length = v.cells.size ∧ (∀ u ∈ v.cells.toList, u.oneCell' = true) ∧
      ∀ (j : Nat) y u, cs[j]? = some y → v.cells[j]? = some u → Jr s y u
  | [], [], l, h, _ => by
    simp only [J2w, RM.run] at h; injection h with h; subst h
    exact ⟨rfl, fun k off size cs i v h => by simp at h⟩
  | [], _ :: _, _, _, hc => by simp [J6P] at hc
  | _ :: _, [], _, _, hc => by simp [J6P] at hc
  | (off, size, x) :: parts, (i, y) :: ps, l, h, hc => by
    simp only [J6P, Bool.and_eq_true, beq_iff_eq] at hc
    obtain ⟨⟨hp, hx⟩, hc⟩ := hc
    simp only [J2w] at h
    obtain ⟨v, h1, h⟩ := bind_some h
    split at h
    · rename_i cs hcs
      obtain ⟨l', h2, h⟩ := bind_some h
      simp only [RM.run] at h; injection h with h; subst h
      obtain ⟨k1, k2⟩ := Jea he h2 hc
      obtain ⟨q1, q2, q3⟩ := JaM hcs (JI he h1 hx)
      refine ⟨by simpa using k1, fun k off' size' cs' i' v' h3 h4 => ?_⟩
      cases k with
      | zero =>
        simp at h3 h4
        obtain ⟨rfl, rfl, rfl⟩ := h3
        obtain ⟨rfl, rfl⟩ := h4
        exact ⟨hp, q1, q2, q3⟩
      | succ k => exact k2 k off' size' cs' i' v' (by simpa using h3) (by simpa using h4)
    · cases h
theorem Je0 : ∀ {fs : List Field}, (∀ f ∈ fs, (szT P f.type).isSome = true) → ∀ w : World,
    (fs.mapM fun f => do pure (f.offset, ← sizeOf f.type) : Sem (List (Nat × Nat))).run P w = .ok (fs.map fun f => (f.offset, (szT P f.type).getD 0)) w
  | [], _, w => by simp
  | f :: fs, h, w => by
    have hs : (szT P f.type) = some ((szT P f.type).getD 0) := by
      have := h f (by simp)
      cases hq : szT P f.type <;> simp [hq] at this ⊢
    have ih := Je0 (fs := fs) (fun g hg => h g (by simp [hg])) w
    rw [List.mapM_cons]
    simp only [Sem.run_bind, J2U hs, Result.andThen_ok, Sem.run_pure, ih]
    simp
theorem JrK (hi : Inv s) (he : JQ s a.tmps env) {zero parts} (h : (opR F (.build zero parts) new).run ⟨env, s.σ⟩ = some e) (hc : JA P (.build zero parts) o.op = true) : J0H P o a s e := by
  simp only [opR] at h
  obtain ⟨l, h1, h'⟩ := bind_some h
  clear h
  unfold JA at hc
  simp only at hc
  split at hc
  · rename_i t ps hop
    simp only [Bool.and_eq_true] at hc
    obtain ⟨hz, ht⟩ := hc
    obtain ⟨z, hz1, hz2, hz3⟩ := J5w hz
    split at h'
    · rename_i cs hcs
      obtain ⟨r, h3, rfl⟩ := J1N h'
      have hzero : ∀ (i : Nat) x, (zero.map AV.p)[i]? = some x → ∃ u, z.cells[i]? = some u ∧ Jr s x u ∧ u.oneCell' = true := by
        intro i x hx
        rw [List.getElem?_map] at hx
        cases hzi : zero[i]? with
        | none => simp [hzi] at hx
        | some c =>
          simp [hzi] at hx; subst hx
          have hlt := Jb hzi
          have hlt' : i < z.cells.size := by omega
          have := hz3 (w := s.w) (C := s.g.C) i c z.cells[i] hzi (by simp)
          exact ⟨z.cells[i], by simp, .p _ _ this, this.one⟩
      have fin : ∀ {place : Nat → Option (Nat × Nat)}, J6P place parts ps.toList = true →
          ∃ cells', Instr.fill place z.cells (ps.toList.map fun x => (x.1, a.eval x.2)) = some cells' ∧ Jr s r (.agg cells') := by
        intro place hch
        obtain ⟨k1, k2⟩ := Jea he h1 hch
        obtain ⟨cells', f1, f2, f3⟩ := JhG (s := s) (cells := z.cells) hcs k1 k2 (by simp [hz2]) hzero
        refine ⟨cells', f1, ?_⟩
        have := JiZ (s := s) (vs := cells'.toList) h3 (by simpa using f2) (fun v hv => by
            obtain ⟨i, hi'⟩ := List.getElem?_of_mem hv
            have hi' : cells'[i]? = some v := by simpa using hi'
            have hlt := JbE hi'
            obtain ⟨u, hu, _, h1⟩ := f3 i cs[i] (by rw [List.getElem?_eq_getElem])
            rw [hi'] at hu; injection hu with hu; subst hu; exact h1)
          (fun i y v hy hv => by
            obtain ⟨u, hu, hr, _⟩ := f3 i y hy
            have hv : cells'[i]? = some v := by simpa using hv
            rw [hv] at hu; injection hu with hu; subst hu; exact hr)
        rcases this with ⟨_, hr⟩ | ⟨hf, _⟩
        · simpa using hr
        · cases hf
      have hps : (ps.map fun x => (x.1, a.eval x.2)).toList = ps.toList.map fun x => (x.1, a.eval x.2) := by simp
      split at ht
      · rename_i fs hu
        simp only [Bool.and_eq_true] at ht
        obtain ⟨hall, hch⟩ := ht
        obtain ⟨cells', f1, hr⟩ := fin hch
        have hpl : (fun i => (fs.map fun f => (f.offset, (szT P f.type).getD 0))[i]?) = JbK P fs := by
          funext i
          simp only [JbK, Array.getElem?_map]
          cases hfi : fs[i]? with
          | none => rfl
          | some f =>
            have := Array.all_eq_true_iff_forall_mem.1 hall f (Array.mem_of_getElem? hfi)
            cases hq : szT P f.type <;> simp [hq] at this ⊢
        refine Js hi (v := .agg cells') ?_ hr
        have hmap : (fs.mapM fun f => do pure (f.offset, ← sizeOf f.type) : Sem (Array (Nat × Nat))).run P s.w = .ok (fs.map fun f => (f.offset, (szT P f.type).getD 0)) s.w := by
          rw [Array.mapM_eq_mapM_toList]
          simp only [Sem.run_map, Je0 (P := P) (fs := fs.toList) (fun f hf => Array.all_eq_true_iff_forall_mem.1 hall f (by simpa using hf)), Result.andThen_ok]
          congr 1
          apply Array.ext'; simp
        have hf : Instr.fill (fun i => (fs.map fun f => (f.offset, (szT P f.type).getD 0))[i]?) z.cells (ps.map fun x => (x.1, a.eval x.2)).toList = some cells' := by
          rw [hpl, hps]; exact f1
        have hb : (Instr.build t (ps.map fun x => (x.1, a.eval x.2))).run P s.w = .ok (.agg cells') s.w := by
          unfold Instr.build
          simp only [Sem.run_bind, JaG hz1, Result.andThen_ok, run_underlying hu, hmap, hf]
          rfl
        simp only [execOp, hop, Sem.run_bind, hb, Result.andThen_ok, Sem.run_pure]
      · rename_i n el hu
        split at ht
        · rename_i q hq
          obtain ⟨cells', f1, hr⟩ := fin ht
          refine Js hi (v := .agg cells') ?_ hr
          have hb : (Instr.build t (ps.map fun x => (x.1, a.eval x.2))).run P s.w = .ok (.agg cells') s.w := by
            unfold Instr.build
            simp only [Sem.run_bind, JaG hz1, Result.andThen_ok, run_underlying hu, J2U hq, hps, f1]
            rfl
          simp only [execOp, hop, Sem.run_bind, hb, Result.andThen_ok, Sem.run_pure]
        · cases ht
      · cases ht
    · cases h'
  · cases hc
theorem JuF (hi : Inv s) {n} (h : (opR F (.alen n) new).run ⟨env, s.σ⟩ = some e) (hc : JA P (.alen n) o.op = true) : J0H P o a s e := by
  simp only [opR, RM.run] at h
  injection h with h; subst h
  unfold JA at hc
  simp only at hc
  split at hc
  · rename_i c hop
    split at hc
    · rename_i hcal
      split at hc
      · rename_i y t hargs htys
        have hm : c.args.map a.eval = #[a.eval y] := by apply Array.ext'; simp [hargs]
        have ht0 : c.argTypes[0]? = some t := by rw [← Array.getElem?_toList, htys]; rfl
        split at hc
        · rename_i m el hu
          have : m = n := by simpa using hc
          subst this
          exact Js hi (v := .int .i64 m) (by simp [execOp, hop, resolve, hcal, hm, invoke, builtin, Builtin.len_, ht0, run_underlying hu, goInt]) (J6b _ _)
        · rename_i ar hu
          split at hc
          · rename_i m el har
            have : m = n := by simpa using hc
            subst this
            exact Js hi (v := .int .i64 m) (by simp [execOp, hop, resolve, hcal, hm, invoke, builtin, Builtin.len_, ht0, run_underlying hu, run_underlying (Ji6 har), goInt]) (J6b _ _)
          · cases hc
        · cases hc
      · cases hc
    · cases hc
  · cases hc
end
end Go.Am
end
section
namespace Go.Am
def JaQ (s : Sn) (esz : Nat) (rows : List (List PV)) (c : Array Value) : Prop :=
  (∀ row ∈ rows, row.length = esz) ∧ rows.length * esz ≤ c.size ∧
    ∀ (i j : Nat) row x, rows[i]? = some row → row[j]? = some x → ∃ u, c[i * esz + j]? = some u ∧ JJ s.w s.g.C x u
section
variable {P : Program} {F : Orc} {s : Sn} {a : Act} {env : List (Nat × AV)} {o : Oper} {new : Nat} {e : Eff}
theorem JaQ.mono {s0 s : Sn} (hi : Inv s0) (t : JE s0 s) {esz rows c} (h : JaQ s0 esz rows c) : JaQ s esz rows c :=
  ⟨h.1, h.2.1, fun i j row x hr hx => let ⟨u, h1, h2⟩ := h.2.2 i j row x hr hx; ⟨u, h1, h2.mono hi t⟩⟩
theorem Je9 {s0 : Sn} (hi : Inv s0) (hn : s0.σ[new]? = some .dead) {esz : Nat} {rows : List (List PV)} {c : Array Value} {et : TypeId} {fz : Nat × Nat} {w' : World} {cap : Nat}
    (hh : w'.heap = s0.w.heap.push (.cells c et fz)) (ho : w'.os = s0.w.os) (hp : w'.output = s0.w.output) (hf : J9W esz fz c.size) (hr : JaQ s0 esz rows c) (hcap : rows.length ≤ cap) (hsz : cap * esz ≤ c.size) :
    (∃ g', Inv ⟨s0.σ.set new (.arr true esz rows), g', w'⟩ ∧ JE s0 ⟨s0.σ.set new (.arr true esz rows), g', w'⟩ ∧
      Jr ⟨s0.σ.set new (.arr true esz rows), g', w'⟩ (.slr new 0 rows.length) (.slice (some ⟨s0.w.heap.size, 0, none⟩) rows.length cap)) := by
  obtain ⟨i', t'⟩ := Jg8 hi hn (blk := .arr true esz rows) hh ho hp hf.1 (fun _ _ _ h => by injection h with _ h _; subst h; exact hf.2) hr
  refine ⟨_, i', t', .slr new 0 _ _ true esz rows ⟨_, _, rfl, .inr (by simp)⟩ (J0a hn) (by omega) fun _ => .inr ⟨s0.w.heap.size, cap, c, et, fz, if_pos rfl, by simp, hcap, J3J hh, by simpa using hsz⟩⟩
theorem Jfd {s0 : Sn} (hi : Inv s0) {esz : Nat} {rows : List (List PV)} {c : Array Value} {et : TypeId} {fz : Nat × Nat} {w' : World} {cap : Nat}
    (hh : w'.heap = s0.w.heap.push (.cells c et fz)) (ho : w'.os = s0.w.os) (hp : w'.output = s0.w.output) (hr : JaQ s0 esz rows c) (hcap : rows.length ≤ cap) :
    (∃ g', Inv ⟨s0.σ, g', w'⟩ ∧ JE s0 ⟨s0.σ, g', w'⟩ ∧ Jr ⟨s0.σ, g', w'⟩ (.p (.sl esz rows)) (.slice (some ⟨s0.w.heap.size, 0, none⟩) rows.length cap)) := by
  obtain ⟨i', t'⟩ := Jq9 hi hh ho hp
  refine ⟨_, i', t', .p _ _ (Jd0 (s := ⟨s0.σ, _, w'⟩) rfl hcap hr.1 (.inr ⟨_, 0, rfl, fun i j row x hi' hj => ⟨.inr rfl, ?_⟩⟩))⟩
  obtain ⟨u, hu, hrel⟩ := hr.2.2 i j row x hi' hj
  exact ⟨u, by rw [J1Y (J3J hh), Nat.zero_add]; exact hu, hrel.mono hi t'⟩
theorem JoN {σ0 : List Blk} {tmps : Array Value} (he : ∀ n x, lk n env = some x → ∃ v, a.tmps[n]? = some v) : ∀ {xs : List Opd} {ys : List Operand} {s : Sn} {y : List (List PV) × List (Nat × Blk)}, Inv s → Frz σ0 s.σ → JQ s a.tmps env →
    (fzs xs).run ⟨env, σ0⟩ = some y → J6L xs ys = true →
    ∃ g', Inv ⟨upd y.2 s.σ, g', s.w⟩ ∧ JE s ⟨upd y.2 s.σ, g', s.w⟩ ∧ Frz s.σ (upd y.2 s.σ) ∧ y.1.length = ys.length ∧
      ∀ (k : Nat) cs q, y.1[k]? = some cs → ys[k]? = some q → cs.length = (a.eval q).cells.size ∧ ∀ (i : Nat) c u, cs[i]? = some c → (a.eval q).cells[i]? = some u → JJ s.w g'.C c u
  | [], [], s, y, hi, hF, hE, h, _ => by
    simp only [fzs, RM.run] at h; injection h with h; subst h
    exact ⟨s.g, hi, .refl s, .refl _, rfl, fun k cs q h => by simp at h⟩
  | [], _ :: _, _, _, _, _, _, _, hc => by simp [J6L] at hc
  | _ :: _, [], _, _, _, _, _, _, hc => by simp [J6L] at hc
  | x :: xs, q :: ys, s, y, hi, hF, hE, h, hc => by
    simp only [J6L, Bool.and_eq_true] at hc
    simp only [fzs] at h
    obtain ⟨v, h1, h⟩ := bind_some h
    obtain ⟨y1, h2, h⟩ := bind_some h
    obtain ⟨y2, h3, h⟩ := bind_some h
    simp only [RM.run] at h; injection h with h; subst h
    have h1' : (ev x).run ⟨env, s.σ⟩ = some v := by
      cases x with
      | t n => simpa only [ev, RM.run] using h1
      | c z => simpa only [ev, RM.run] using h1
    have hr := JI hE h1' hc.1
    obtain ⟨g1, i1, t1, f1, l1, r1⟩ := Jmz hi hF h2 hr
    obtain ⟨g2, i2, t2, f2, l2, r2⟩ := JoN (tmps := tmps) he (s := ⟨upd y1.2 s.σ, g1, s.w⟩) i1 (hF.trans f1) (hE.mono hi t1) h3 hc.2
    refine ⟨g2, by rw [J2j]; exact i2, by rw [J2j]; exact t1.trans t2, by rw [J2j]; exact f1.trans f2, by simp [l2], fun k cs q' hk hq => ?_⟩
    cases k with
    | zero =>
      simp at hk hq; subst hk hq
      exact ⟨l1, fun i c u hc hu => JJ.mono (s0 := ⟨upd y1.2 s.σ, g1, s.w⟩) (s := ⟨upd y2.2 (upd y1.2 s.σ), g2, s.w⟩) i1 t2 (r1 i c u hc hu)⟩
    | succ k => exact r2 k cs q' (by simpa using hk) (by simpa using hq)
theorem JkQ {esz : Nat} (hpos : 0 < esz) : ∀ {parts : List (Nat × List PV)} {ps : List (Nat × Value)} {rows rows' : List (List PV)} {cells : Array Value},
    J3Y esz parts rows = some rows' → parts.length = ps.length →
    (∀ (k : Nat) i cs j v, parts[k]? = some (i, cs) → ps[k]? = some (j, v) → i = j ∧ cs.length = v.cells.size ∧ ∀ (m : Nat) c u, cs[m]? = some c → v.cells[m]? = some u → JJ s.w s.g.C c u) →
    JaQ s esz rows cells → cells.size = rows.length * esz →
    ∃ cells', Instr.fill (fun i => some (i * esz, esz)) cells ps = some cells' ∧ JaQ s esz rows' cells' ∧ rows'.length = rows.length ∧ cells'.size = rows.length * esz
  | [], [], rows, rows', cells, h, _, _, hr, hs => by
    simp [J3Y] at h; subst h
    exact ⟨cells, rfl, hr, rfl, hs⟩
  | [], _ :: _, _, _, _, _, hl, _, _, _ => by simp at hl
  | _ :: _, [], _, _, _, _, hl, _, _, _ => by simp at hl
  | (i, cs) :: parts, (j, v) :: ps, rows, rows', cells, h, hlen, hp, hr, hs => by
    unfold J3Y at h
    split at h
    · rename_i hc
      obtain ⟨rfl, p2, p3⟩ := hp 0 i cs j v rfl rfl
      have hbnd : i * esz + esz ≤ rows.length * esz := by
        have := Nat.mul_le_mul_right esz (show i + 1 ≤ rows.length from hc.2)
        rwa [Nat.add_mul, Nat.one_mul] at this
      obtain ⟨cells1, f1, f2, f3, f4⟩ := JkK (place := fun i => some (i * esz, esz)) (v := v) (rest := ps) (cells := cells) (i := i) rfl (by omega) (by omega)
      obtain ⟨q1, q2, q3⟩ := hr
      obtain ⟨cells', g1, g2, g3, g4⟩ := JkQ hpos (cells := cells1) h (by simpa using hlen) (fun k i cs j v h1 h2 => hp (k + 1) i cs j v (by simpa using h1) (by simpa using h2))
        ⟨fun row hm => by
            rcases List.mem_or_eq_of_mem_set hm with hm | hm
            · exact q1 row hm
            · subst hm; exact hc.1, by simp; omega, fun k m row x hk hx => by
            by_cases hki : k = i
            · subst hki
              rw [List.getElem?_set_self hc.2] at hk
              injection hk with hk; subst hk
              have hlt := Jb hx
              have hlt' : m < v.cells.size := by omega
              exact ⟨v.cells[m], f3 m _ (by simp), p3 m x _ hx (by simp)⟩
            · rw [List.getElem?_set_ne (Ne.symm hki)] at hk
              obtain ⟨u, hu, hrel⟩ := q3 k m row x hk hx
              refine ⟨u, ?_, hrel⟩
              rw [f4 _ ?_]
              · exact hu
              · have hm0 := Jb hx
                rw [q1 row (JV hk)] at hm0
                rcases Nat.lt_or_ge k i with hlt' | hge
                · left
                  have := J4X hlt' hm0
                  omega
                · right
                  have := Nat.mul_le_mul_right esz (show i + 1 ≤ k by omega)
                  rw [Nat.add_mul, Nat.one_mul] at this
                  omega⟩ (by simp; omega)
      exact ⟨cells', by rw [f1]; exact g1, g2, by simpa using g3, by simpa using g4⟩
    · cases h
theorem Jg4 {t : TypeId} {n : Nat} (h : szT P t = some n) : ∃ i, P.info? t = some i ∧ i.size = n := by
  unfold szT at h
  cases hi : P.info? t with
  | none => rw [hi] at h; cases h
  | some i => rw [hi] at h; simp at h; exact ⟨i, rfl, h⟩
theorem JjQ {t : TypeId} {v : Value} {i : TypeInfo} (h : zeT P t = some v) (hi : P.info? t = some i) : i.zero = some v := by
  unfold zeT at h; rw [hi] at h; simpa using h
theorem Jhx {t : TypeId} {n : Nat} {i : TypeInfo} (h : byT P t = some n) (hi : P.info? t = some i) : i.bytes = n := by
  unfold byT at h; rw [hi] at h; simpa using h
theorem Jsa {z : Array Value} {esz n i j : Nat} (hz : z.size = esz) (hi : i < n) (hj : j < esz) : (madeCells z (n * esz))[i * esz + j]? = z[j]? := by
  have h1 : i * esz + j < n * esz := J4X hi hj
  have h2 : (i * esz + j) % z.size = j := by
    rw [hz, Nat.add_comm, Nat.add_mul_mod_self_right, Nat.mod_eq_of_lt hj]
  have h3 : j < z.size := by omega
  simp [madeCells, h1, h2, h3]
theorem JiK {zero : List PV} {z : Value} {esz n m : Nat} (hl : zero.length = esz) (hz2 : zero.length = z.cells.size)
    (hz3 : ∀ {w C} (i : Nat) x u, zero[i]? = some x → z.cells[i]? = some u → JJ w C x u) (hnm : n ≤ m) : JaQ s esz (List.replicate n zero) (madeCells z.cells (m * esz)) := by
  refine ⟨fun row hr => by rw [List.eq_of_mem_replicate hr]; exact hl, ?_, fun i j row x hi hj => ?_⟩
  · rw [size_madeCells, List.length_replicate]; exact Nat.mul_le_mul_right esz hnm
  · have hlt := Jb hi
    have := List.eq_of_mem_replicate (JV hi)
    subst this
    have hj' := Jb hj
    simp at hlt
    have hz : z.cells.size = esz := by omega
    refine ⟨z.cells[j], ?_, hz3 j x _ hj (by simp)⟩
    rw [Jsa hz (by omega) (by omega)]
    simp
theorem Jpd (hi : Inv s) (he : JQ s a.tmps env) {own esz bytes zero l c} (hn : own = true → s.σ[new]? = some .dead) (h : (opR F (.mkslice own esz bytes zero l c) new).run ⟨env, s.σ⟩ = some e)
    (hc : JA P (.mkslice own esz bytes zero l c) o.op = true) : J0H P o a s e := by
  simp only [opR] at h
  obtain ⟨u, h1, h'⟩ := bind_some h
  obtain ⟨v, h2, h''⟩ := bind_some h'
  clear h h'
  unfold JA at hc
  simp only at hc
  split at hc
  · rename_i t l' c' hop
    simp only [Bool.and_eq_true] at hc
    obtain ⟨⟨hl, hcc⟩, ht⟩ := hc
    have rl := JI he h1 hl
    have rc := JI he h2 hcc
    split at ht
    · rename_i el hel
      simp only [Bool.and_eq_true, beq_iff_eq, decide_eq_true_eq] at ht
      obtain ⟨⟨⟨⟨⟨hs, hby⟩, hz⟩, hzl⟩, hpos⟩, hbpos⟩ := ht
      obtain ⟨i, hinf, hsz⟩ := Jg4 hs
      obtain ⟨z, hz1, hz2, hz3⟩ := J5w hz
      have hbytes := Jhx hby hinf
      split at h''
      · rename_i k n k' m
        split at h''
        · rename_i hcond
          obtain ⟨hn0, hnm, hb, hm⟩ := hcond
          have e1 := J4B rl
          have e2 := J4B rc
          have hrun := run_make (P := P) s.w t el i z (J1Q hel) hinf (JjQ hz1 hinf) k k' n m hn0 hnm (by rw [hbytes]; exact hb) (by omega)
          rw [hsz] at hrun
          have hrow : JaQ s esz (List.replicate n.toNat zero) (madeCells z.cells (m.toNat * esz)) := JiK hzl hz2 hz3 (by omega)
          have hex : (execOp a.eval o).run P s.w = .ok (.value (.slice (some ⟨s.w.heap.size, 0, none⟩) n.toNat m.toNat)) (s.w.alloc (.cells (madeCells z.cells (m.toNat * esz)) el)) := by
            simp [execOp, hop, e1, e2, hrun]
          split at h''
          · rename_i hown
            simp only [RM.run] at h''; injection h'' with h''; subst h''
            obtain ⟨g', i', t', r'⟩ := Je9 hi (hn hown) (w' := s.w.alloc (.cells (madeCells z.cells (m.toNat * esz)) el)) (fz := (0, 0)) rfl rfl rfl (J9W.zero _ _) hrow (cap := m.toNat) (by simp; omega) (by rw [size_madeCells]; exact Nat.le_refl _)
            simp only [List.length_replicate] at r'
            exact J23 hex i' t' r'
          · simp only [RM.run] at h''; injection h'' with h''; subst h''
            obtain ⟨g', i', t', r'⟩ := Jfd hi (w' := s.w.alloc (.cells (madeCells z.cells (m.toNat * esz)) el)) (fz := (0, 0)) rfl rfl rfl hrow (cap := m.toNat) (by simp; omega)
            simp only [List.length_replicate] at r'
            exact J23 (e := ⟨_, []⟩) hex i' t' r'
        · cases h''
      · cases h''
    · cases ht
  · cases hc
theorem Jug (hi : Inv s) (he : JQ s a.tmps env) {own esz n zero parts} (hn : own = true → s.σ[new]? = some .dead) (h : (opR F (.lits own esz n zero parts) new).run ⟨env, s.σ⟩ = some e)
    (hc : JA P (.lits own esz n zero parts) o.op = true) : J0H P o a s e := by
  simp only [opR] at h
  obtain ⟨y, h1, h'⟩ := bind_some h
  clear h
  unfold JA at hc
  simp only at hc
  split at hc
  · rename_i t len ps hop
    simp only [Bool.and_eq_true, beq_iff_eq] at hc
    obtain ⟨rfl, ht⟩ := hc
    split at ht
    · rename_i el hel
      simp only [Bool.and_eq_true, beq_iff_eq, decide_eq_true_eq] at ht
      obtain ⟨⟨⟨⟨⟨hs, hle⟩, hz⟩, hzl⟩, hpos⟩, hidx⟩ := ht
      obtain ⟨z, hz1, hz2, hz3⟩ := J5w hz
      have hidx' : J6L (parts.map (·.2)) (ps.toList.map (·.2)) = true ∧ parts.map (·.1) = ps.toList.map (·.1) := by
        have : ∀ {p : List (Nat × Opd)} {q : List (Nat × Operand)}, Jdj p q = true → J6L (p.map (·.2)) (q.map (·.2)) = true ∧ p.map (·.1) = q.map (·.1) := by
          intro p
          induction p with
          | nil => intro q h; cases q <;> simp [Jdj] at h ⊢; rfl
          | cons x p ih =>
            intro q h
            cases q with
            | nil => simp [Jdj] at h
            | cons y q =>
              obtain ⟨xi, xo⟩ := x
              obtain ⟨yi, yo⟩ := y
              simp only [Jdj, Bool.and_eq_true, beq_iff_eq] at h
              obtain ⟨h3, h4⟩ := ih h.2
              exact ⟨by simp [J6L, h.1.2, h3], by simp [h.1.1, h4]⟩
        exact this hidx
      obtain ⟨g1, i1, t1, f1, l1, r1⟩ := JoN (tmps := a.tmps) (fun n x hx => let ⟨v, h, _⟩ := he n x hx; ⟨v, h⟩) hi (.refl _) he h1 hidx'.1
      split at h'
      · rename_i rows hrows
        have hplen : (parts.map (·.1)).length = (ps.toList.map (·.1)).length := by rw [hidx'.2]
        simp at hplen
        simp at l1
        have hzip : ((parts.map (·.1)).zip y.1).length = (ps.toList.map fun x => (x.1, a.eval x.2)).length := by simp; omega
        obtain ⟨cells', f2, r2, len2, sz2⟩ := JkQ (s := ⟨upd y.2 s.σ, g1, s.w⟩) hpos (ps := ps.toList.map fun x => (x.1, a.eval x.2)) (cells := madeCells z.cells (len * esz)) hrows hzip (fun k i cs j v hk hq => by
            rw [List.getElem?_zip_eq_some] at hk
            obtain ⟨hk1, hk2⟩ := hk
            rw [List.getElem?_map] at hq
            cases hpk : ps.toList[k]? with
            | none => simp [hpk] at hq
            | some q =>
              simp [hpk] at hq
              obtain ⟨rfl, rfl⟩ := hq
              rw [hidx'.2, List.getElem?_map, hpk] at hk1
              simp at hk1
              obtain ⟨k3, k4⟩ := r1 k cs q.2 hk2 (by rw [List.getElem?_map, hpk]; rfl)
              exact ⟨hk1.symm, k3, k4⟩)
          (JiK hzl hz2 hz3 (Nat.le_refl _)) (by simp [size_madeCells])
        simp at len2 sz2
        have hex : (execOp a.eval o).run P s.w = .ok (.value (.slice (some ⟨s.w.heap.size, 0, none⟩) len len)) (s.w.alloc (.cells cells' el)) := by
          have hle' : ¬ (len * esz > 2 ^ 24) := by omega
          have hps : (ps.map fun (x : Nat × Operand) => (x.1, a.eval x.2)).toList = ps.toList.map fun x => (x.1, a.eval x.2) := by simp
          have hb : (Instr.buildSlice t len (ps.map fun (x : Nat × Operand) => (x.1, a.eval x.2))).run P s.w = .ok (.slice (some ⟨s.w.heap.size, 0, none⟩) len len) (s.w.alloc (.cells cells' el)) := by
            unfold Instr.buildSlice
            by_cases h0 : len * esz = 0
            · have hm0 : madeCells z.cells (len * esz) = #[] := by simp [madeCells, h0]
              rw [hm0] at f2
              have h00 : ¬ ((0 : Nat) > 2 ^ 24) := by decide
              have hr0 : Array.range 0 = #[] := rfl
              simp only [h00, Sem.run_bind, run_underlying (J1Q hel), Result.andThen_ok, J2U hs, hle', if_false, h0, if_true, Sem.run_pure, hps, hr0, Array.map_empty, f2, newRow, run_newObj]
              rfl
            · have hm0 : ((Array.range (len * esz)).map fun x => z.cells[x % z.cells.size]!) = madeCells z.cells (len * esz) := rfl
              simp only [Sem.run_bind, run_underlying (J1Q hel), Result.andThen_ok, J2U hs, hle', if_false, h0, JaG hz1, Sem.run_pure, hps, hm0, f2, newRow, run_newObj]
              rfl
          simp only [execOp, hop, Sem.run_bind, hb, Result.andThen_ok, Sem.run_pure]
        split at h'
        · rename_i hown
          simp only [RM.run] at h'; injection h' with h'; subst h'
          have hd1 : (upd y.2 s.σ)[new]? = some .dead := f1.2 _ _ (hn hown) (by simp)
          obtain ⟨g', i', t', r'⟩ := Je9 (s0 := ⟨upd y.2 s.σ, g1, s.w⟩) i1 hd1 (w' := s.w.alloc (.cells cells' el)) (fz := (0, 0)) rfl rfl rfl (J9W.zero _ _) r2 (cap := len) (by omega) (by omega)
          rw [len2] at r'
          refine J23 (e := ⟨_, y.2 ++ [(new, .arr true esz rows)]⟩) (g' := g') hex ?_ ?_ ?_
          · rw [J2j]; exact i'
          · rw [J2j]; exact t1.trans t'
          · rw [J2j]; exact r'
        · simp only [RM.run] at h'; injection h' with h'; subst h'
          obtain ⟨g', i', t', r'⟩ := Jfd (s0 := ⟨upd y.2 s.σ, g1, s.w⟩) i1 (w' := s.w.alloc (.cells cells' el)) (fz := (0, 0)) rfl rfl rfl r2 (cap := len) (by omega)
          rw [len2] at r'
          exact J23 (e := ⟨_, y.2⟩) hex i' (t1.trans t') r'
      · cases h'
    · cases ht
  · cases hc
end
end Go.Am
end
section
namespace Go.Am
section
variable {P : Program} {F : Orc} {s : Sn} {a : Act} {env : List (Nat × AV)} {o : Oper} {new : Nat} {e : Eff}
theorem Jhg (l : List UInt8) (c : Array Value) (hc : ∀ (i : Nat) b, l[i]? = some b → c[i]? = some (.int .u8 b.toNat)) (hl : l.length ≤ c.size) : JaQ s 1 (l.map J49) c := by
  refine ⟨fun row hr => ?_, by simpa using hl, fun i j row x hi hj => ?_⟩
  · obtain ⟨b, _, rfl⟩ := List.mem_map.1 hr; rfl
  · rw [List.getElem?_map] at hi
    cases hli : l[i]? with
    | none => simp [hli] at hi
    | some b =>
      simp [hli] at hi; subst hi
      have : j = 0 := by have := Jb hj; simp [J49] at this; exact this
      subst this
      simp [J49] at hj; subst hj
      exact ⟨_, by rw [Nat.mul_one, Nat.add_zero]; exact hc i b hli, .i _ _⟩
theorem JjJ {α : Type} {esz : Nat} : ∀ {rows : List (List α)}, (∀ row ∈ rows, row.length = esz) → ∀ {i j : Nat} {row : List α} {x : α}, rows[i]? = some row → row[j]? = some x → rows.flatten[i * esz + j]? = some x
  | [], _, i, j, row, x, h, _ => by simp at h
  | r0 :: rs, hl, i, j, row, x, h, hx => by
    have hr0 : r0.length = esz := hl r0 (by simp)
    cases i with
    | zero =>
      simp at h; subst h
      have := Jb hx
      simp only [Nat.zero_mul, Nat.zero_add, List.flatten_cons]
      rw [List.getElem?_append_left (by omega)]; exact hx
    | succ i =>
      simp only [List.flatten_cons]
      rw [List.getElem?_append_right (by rw [Nat.add_mul]; omega)]
      have := JjJ (rows := rs) (fun row hm => hl row (by simp [hm])) (by simpa using h) hx
      rw [← this]; congr 1
      rw [Nat.add_mul]; omega
theorem Joa {h : Array Obj} {x : Obj} (f : Obj → Obj) : (h.push x).modify h.size f = h.push (f x) := by
  apply Array.ext_getElem?
  intro i
  rw [Array.getElem?_modify, Array.getElem?_push, Array.getElem?_push]
  by_cases hi : i = h.size
  · subst hi; simp
  · rw [if_neg (Ne.symm hi), if_neg hi, if_neg hi]
theorem Jmg {el : TypeId} (l : List UInt8) (w : World) : ∃ w' cap c fz, (Conv.stringToBytes el ⟨l.toArray⟩).run P w = .ok (.slice (some ⟨w.heap.size, 0, none⟩) l.length cap) w' ∧
    w'.heap = w.heap.push (.cells c el fz) ∧ w'.os = w.os ∧ w'.output = w.output ∧ JjL fz 0 c.size ∧ l.length ≤ cap ∧ c.size = cap ∧ ∀ (i : Nat) b, l[i]? = some b → c[i]? = some (.int .u8 b.toNat) := by
  have hf : (Question.appendCap l.length 0 el).forced = false := rfl
  have hcap : l.length ≤ (Question.appendCap l.length 0 el).cut (w.tape w.drawn (.appendCap l.length 0 el)) := by simp [Question.cut]
  generalize hq : (Question.appendCap l.length 0 el).cut (w.tape w.drawn (.appendCap l.length 0 el)) = cap at hcap
  let c : Array Value := (l.toArray.map fun b => Value.int .u8 b.toNat) ++ Array.replicate (cap - l.length) (.int .u8 0)
  have hc : c.size = cap := by simp [c]; omega
  refine ⟨({ w with drawn := w.drawn + 1, heap := w.heap.push (.cells c el) }).freeze { block := w.heap.size, off := c.size } 1, cap, c, (c.size, c.size + 1), ?_, ?_, ?_, ?_, ?_, hcap, hc, ?_⟩
  · unfold Conv.stringToBytes
    have hs : ByteArray.size ⟨l.toArray⟩ = l.length := J8G l
    have hsh : World.shape? { w with drawn := w.drawn + 1, heap := w.heap.push (.cells c el) } w.heap.size = some (el, c.size) := by simp [World.shape?]
    have he : (Array.map (fun b => Value.int IntKind.u8 ↑(UInt8.toNat b)) l.toArray ++ Array.replicate (cap - l.length) (Value.int IntKind.u8 0)) = c := rfl
    simp only [Sem.run_bind, run_choose, hs, hf, Bool.false_eq_true, if_false, Result.andThen_ok, hq, newRow, run_newObj, Sem.run_pure, markStringish, run_shape, run_freeze, he, hsh]
  · unfold World.freeze
    simp only [Nat.one_ne_zero, if_false]
    rw [Joa]
    simp
  · unfold World.freeze; simp
  · unfold World.freeze; simp
  · intro o _ h; simp; omega
  · intro i b hb
    have hlt := Jb hb
    rw [List.getElem?_eq_getElem hlt] at hb
    injection hb with hb
    simp [c, Array.getElem?_append, hlt, hb]
theorem Jp8 (hi : Inv s) (he : JQ s a.tmps env) {own x} (hn : own = true → s.σ[new]? = some .dead) (h : (opR F (.conv (.toBytes own) x) new).run ⟨env, s.σ⟩ = some e)
    (hc : JA P (.conv (.toBytes own) x) o.op = true) : J0H P o a s e := by
  simp only [opR] at h
  obtain ⟨u, h1, h'⟩ := bind_some h
  clear h
  unfold JA at hc
  simp only at hc
  split at hc
  · rename_i src dst y hop
    simp only [Bool.and_eq_true] at hc
    obtain ⟨hx, hs, ht⟩ := hc
    have rx := JI he h1 hx
    split at ht
    · rename_i el hel
      simp only [Bool.and_eq_true, beq_iff_eq] at ht
      have hu' : ∃ l, u = .p (.s l) ∧ (if own = true then RM.ret ⟨.slr new 0 l.length, [(new, .arr true 1 (l.map J49))]⟩ else RM.ret ⟨.p (.sl 1 (l.map J49)), []⟩ : RM Eff).run ⟨env, s.σ⟩ = some e := by
        cases u with
        | p c => cases c with
          | s l => exact ⟨l, rfl, h'⟩
          | _ => cases h'
        | _ => cases h'
      clear h'
      obtain ⟨l, rfl, h'⟩ := hu'
      · skip
        obtain ⟨w', cap, c, fz, hrun, hh, ho, hp, hf, hcap, hcs, hg⟩ := Jmg (P := P) (el := el) l s.w
        have ex := Ja4 rx
        have hex : (execOp a.eval o).run P s.w = .ok (.value (.slice (some ⟨s.w.heap.size, 0, none⟩) l.length cap)) w' := by
          simp [execOp, hop, ex, convert, run_underlying (J7p hs), run_underlying (J1Q hel), run_underlying (Jnq ht.1), hrun]
        have hrow := Jhg (s := s) l c hg (by omega)
        split at h'
        · rename_i hown
          simp only [RM.run] at h'; injection h' with h'; subst h'
          obtain ⟨g', i', t', r'⟩ := Je9 (esz := 1) hi (hn hown) hh ho hp ⟨hf, fun h => absurd rfl h⟩ hrow (cap := cap) (by simpa using hcap) (by omega)
          simp only [List.length_map] at r'
          exact J23 hex i' t' r'
        · simp only [RM.run] at h'; injection h' with h'; subst h'
          obtain ⟨g', i', t', r'⟩ := Jfd hi hh ho hp hrow (cap := cap) (by simpa using hcap)
          simp only [List.length_map] at r'
          exact J23 (e := ⟨_, []⟩) hex i' t' r'
    · cases ht
  · cases hc
theorem Jr0 (hi : Inv s) {esz : Nat} {x : AV} {new : List (List PV)} {v : Value} {u : TypeId} (h : (JS esz x).run ⟨env, s.σ⟩ = some new) (hr : Jr s x v)
    (hu : (elT P u).isSome = true ∨ J71 P u = true) :
    ∃ news, Src P esz u v new.length news s.w ∧ (∀ row ∈ new, row.length = esz) ∧
      ∀ (i j : Nat) row y, new[i]? = some row → row[j]? = some y → ∃ q, news[i * esz + j]? = some q ∧ JJ s.w s.g.C y q := by
  have kind : (∃ e', P.underlying u = some (.slice e')) ∨ P.underlying u = some .string := by
    rcases hu with hu | hu
    · obtain ⟨e', he'⟩ := Option.isSome_iff_exists.1 hu
      exact .inl ⟨e', J1Q he'⟩
    · exact .inr (J7p hu)
  rcases Jik hi h hr with ⟨l, rfl, rfl, rfl, rfl⟩ | hsl
  · have hlen : (byteCells ⟨l.toArray⟩).length = l.length := by rw [byteCells_length, J8G]
    have hfc : ∀ w : World, (Builtin.firstCells 1 l.length (.string ⟨l.toArray⟩)).run P w = .ok (byteCells ⟨l.toArray⟩).toArray w := by
      intro w
      have := firstCells_string (P := P) ⟨l.toArray⟩ w
      rwa [J8G] at this
    refine ⟨byteCells ⟨l.toArray⟩, ⟨kind, fun w => by rw [List.length_map, ← J8G]; rfl, by rw [List.length_map]; exact hfc _, by rw [List.length_map]; exact hfc _, by rw [hlen]; simp, fun q hq => by
      obtain ⟨_, _, rfl⟩ := List.mem_map.1 hq
      rfl⟩, fun row hr => ?_, ?_⟩
    · obtain ⟨b, _, rfl⟩ := List.mem_map.1 hr; rfl
    · have := (Jhg (s := s) l (byteCells ⟨l.toArray⟩).toArray (fun i b hb => by
        simp [byteCells, hb]) (by simp [byteCells])).2.2
      intro i j row y h1 h2
      obtain ⟨q, hq, hr⟩ := this i j row y h1 h2
      exact ⟨q, by simpa using hq, hr⟩
  · obtain ⟨ad, cap, vs, hv, hcap, hlen, hrel, hmem, hrow⟩ := hsl.cells
    have hone : ∀ q ∈ vs, q.oneCell' = true := by
      intro q hq
      obtain ⟨k, hk⟩ := List.getElem?_of_mem hq
      have hlt := Jb hk
      have : k < new.flatten.length := by rw [Je8 hrow]; omega
      obtain ⟨q', hq', hr⟩ := hrel k _ (List.getElem?_eq_getElem this)
      rw [hk] at hq'; injection hq' with hq'; subst hq'; exact hr.one
    have hget : ∀ (i j : Nat) row y, new[i]? = some row → row[j]? = some y → ∃ q, vs[i * esz + j]? = some q ∧ JJ s.w s.g.C y q := by
      intro i j row y h1 h2
      refine hrel _ _ ?_
      clear hrel hmem hlen hone h hr hv hcap hsl
      induction new generalizing i with
      | nil => simp at h1
      | cons r0 new ih =>
        have hr0 : r0.length = esz := hrow r0 (by simp)
        cases i with
        | zero =>
          simp at h1; subst h1
          have := Jb h2
          simp only [Nat.zero_mul, Nat.zero_add, List.flatten_cons]
          rw [List.getElem?_append_left (by omega)]; exact h2
        | succ i =>
          simp only [List.flatten_cons]
          rw [List.getElem?_append_right (by rw [Nat.add_mul]; omega)]
          have := ih (fun row hm => hrow row (by simp [hm])) i (by simpa using h1)
          rw [← this]; congr 1
          rw [Nat.add_mul]; omega
    subst hv
    rcases hmem with hnil | ⟨r, o', rfl, hm⟩
    · subst hnil
      simp at hlen; subst hlen
      refine ⟨[], ?_, hrow, hget⟩
      cases ad with
      | none => exact ⟨kind, fun _ => rfl, run_firstCells_none s.w esz 0 0 cap, run_firstCells_none s.w.drew esz 0 0 cap, by simp, fun _ h => by cases h⟩
      | some ad => exact ⟨kind, fun _ => rfl, run_firstCells_some s.w esz 0 ad 0 cap [] (by simp) (fun j u h => by simp at h), run_firstCells_some s.w.drew esz 0 ad 0 cap [] (by simp) (fun j u h => by simp at h), by simp, fun _ h => by cases h⟩
    · have hm' : ∀ j q, vs[j]? = some q → s.w.cell? (Addr.add ⟨r, o', none⟩ j) = some q := fun j q hj => by rw [J9C, J55]; exact hm j q hj
      exact ⟨vs, ⟨kind, fun _ => rfl, run_firstCells_some s.w esz _ _ _ cap vs hlen hm', run_firstCells_some s.w.drew esz _ _ _ cap vs hlen (by simpa using hm'), hlen, hone⟩, hrow, hget⟩
theorem Jg2 (b : Nat) (x : Blk) (σ : List Blk) : upd [(b, x)] σ = σ.set b x := rfl
structure Jrv (P : Program) (esz bytes : Nat) (t ut ty el : TypeId) (z v : Value) (n : Nat) (news : List Value) (w : World) : Prop where
  newsLen : news.length = n * esz
  room : ∀ (r off sLen sCap : Nat), sLen + n ≤ sCap → (∀ j, j < news.length → (w.cell? ⟨r, off + sLen * esz + j, none⟩).isSome = true) → (∀ j, j < news.length → w.frozen? ⟨r, off + sLen * esz + j, none⟩ = false) →
    (Builtin.append_ #[t, ut] ty #[.slice (some ⟨r, off, none⟩) sLen sCap, v]).run P w = .ok (.slice (some ⟨r, off, none⟩) (sLen + n) sCap) (w.setCells r (off + sLen * esz) news)
  grow : ∀ (base : Option Addr) (sLen sCap : Nat) (olds : List Value), (Builtin.firstCells esz sLen (.slice base sLen sCap)).run P w.drew = .ok olds.toArray w.drew → sCap < sLen + n → ((sLen + n : Nat) : Int) ≤ 9223372036854775807 →
    Builtin.nextslicecap (sLen + n) sCap * bytes ≤ 281474976710656 →
    (Builtin.append_ #[t, ut] ty #[.slice base sLen sCap, v]).run P w = .ok (.slice (some ⟨w.heap.size, 0, none⟩) (sLen + n) (grownCap w (sLen + n) sCap el)) (w.drew.alloc (.cells ((olds ++ news).toArray ++ Builtin.zeroCells z.cells (grownCap w (sLen + n) sCap el - (sLen + n))) el))
  nil : n = 0 → (Builtin.append_ #[t, ut] ty #[.slice none 0 0, v]).run P w = .ok (.slice none 0 0) w
theorem Src.gen {esz bytes : Nat} {t ut ty el : TypeId} {i : TypeInfo} {z v : Value} {n : Nat} {news : List Value} {w : World} (hel : elT P t = some el) (hs : szT P el = some esz) (hinf : P.info? el = some i) (hsz : i.size = esz) (hbytes : i.bytes = bytes) (hzero : i.zero = some z)
    (h : Src P esz ut v n news w) : Jrv P esz bytes t ut ty el z v n news w := by
  have hsrc := h
  rw [← hsz] at hsrc
  refine ⟨h.newsLen, fun r off sLen sCap h1 h2 h3 => ?_, fun base sLen sCap olds h1 h2 h3 h4 => ?_, fun h0 => ?_⟩
  · have hrun := run_append_room_src (P := P) w t ut ty el i (J1Q hel) hinf r off sLen sCap v n news hsrc h1 (by rw [hsz]; exact h2) (by rw [hsz]; exact h3)
    rw [hsz] at hrun; exact hrun
  · exact run_append_grow_src (P := P) w t ut ty el i z (J1Q hel) hinf hzero base sLen sCap olds (by rw [hsz]; exact h1) v n news hsrc h2 h3 (by rw [hbytes]; exact h4)
  · subst h0
    have hl := h.len w
    have hcl := h.cells
    rcases h.kind with ⟨e', hk⟩ | hk
    · simp [Builtin.append_, run_underlying (J1Q hel), run_underlying hk, J2U hs, hl, hcl]
    · simp [Builtin.append_, run_underlying (J1Q hel), run_underlying hk, J2U hs, hl, hcl]
theorem Jpa {esz bytes : Nat} {t ut ty el : TypeId} {i : TypeInfo} {z : Value} {k k' : IntKind} {m : Nat} {w : World} (hel : elT P t = some el) (hs : szT P el = some esz) (hinf : P.info? el = some i) (hsz : i.size = esz) (hbytes : i.bytes = bytes) (hzero : i.zero = some z)
    (hzs : z.cells.size = esz) (hone : ∀ u ∈ z.cells.toList, u.oneCell' = true) (hk : P.underlying ut = some (.int k)) (hm : m * bytes ≤ 281474976710656) (hm2 : m ≤ 281474976710656) :
    Jrv P esz bytes t ut ty el z (.int k' (m : Int)) m (Builtin.zeroCells z.cells m).toList w := by
  have w0 : IntKind.i64.wrap (m : Int) = (m : Int) := by simp [IntKind.wrap_i64]; omega
  have c0 : ¬ (m : Int) < 0 := by omega
  have c1 : ¬ (281474976710656 : Int) < (m : Int) * (bytes : Int) := by
    have : ((m * bytes : Nat) : Int) ≤ 281474976710656 := by omega
    rw [Int.natCast_mul] at this; omega
  have hl : (Builtin.zeroCells z.cells m).toList.length = m * esz := by rw [Array.length_toList, size_zeroCells, hzs]
  have hone' : ∀ u ∈ (Builtin.zeroCells z.cells m).toList, u.oneCell' = true := by
    intro u hu
    unfold Builtin.zeroCells at hu
    simp only [Array.toList_map, List.mem_map] at hu
    obtain ⟨j, _, rfl⟩ := hu
    by_cases hj : j % z.cells.size < z.cells.size
    · rw [getElem!_pos z.cells _ hj]; exact hone _ (Array.getElem_mem_toList _)
    · have : z.cells.size = 0 := by
        rcases Nat.eq_zero_or_pos z.cells.size with h | h
        · exact h
        · exact absurd (Nat.mod_lt _ h) hj
      rw [getElem!_neg z.cells _ hj]; rfl
  have hz0 : m * esz = 0 → Builtin.zeroCells z.cells m = #[] := by
    intro h0
    apply Array.eq_empty_of_size_eq_zero
    rw [size_zeroCells, hzs]; exact h0
  refine ⟨hl, fun r off sLen sCap h1 h2 h3 => ?_, fun base sLen sCap olds h1 h2 h3 h4 => ?_, fun h0 => ?_⟩
  · have hst := run_storeCells_cells (P := P) r (off + sLen * esz) (Builtin.zeroCells z.cells m).toList 0 w (by simpa using h2) (by simpa using h3) hone'
    simp only [Nat.add_zero] at hst
    by_cases hz : m * esz = 0
    · have e := hz0 hz
      rw [e] at hst ⊢
      simp [Builtin.append_, run_underlying (J1Q hel), run_underlying hk, sizeOf, typeInfo, hinf, hsz, hbytes, asInt, asIntOf, w0, c0, c1, h1, hz, Addr.add_lit, hst]
    · simp [Builtin.append_, run_underlying (J1Q hel), run_underlying hk, sizeOf, typeInfo, zeroValue, hinf, hzero, hsz, hbytes, asInt, asIntOf, w0, c0, c1, h1, hz, Addr.add_lit, hst]
  · have hn : ¬ (sLen + m ≤ sCap) := by omega
    have h63' : ¬ (9223372036854775807 < ((sLen : Int) + (m : Int))) := by omega
    have h48' : ¬ (281474976710656 < Builtin.nextslicecap (sLen + m) sCap * bytes) := by omega
    by_cases hz : m * esz = 0
    · have e := hz0 hz
      rw [e]
      simp [Builtin.append_, run_underlying (J1Q hel), run_underlying hk, sizeOf, typeInfo, zeroValue, hinf, hzero, hsz, hbytes, asInt, asIntOf, w0, c0, c1, hz, hn, h63', h48', Question.forced, h1, newRow, grownCap]
    · simp [Builtin.append_, run_underlying (J1Q hel), run_underlying hk, sizeOf, typeInfo, zeroValue, hinf, hzero, hsz, hbytes, asInt, asIntOf, w0, c0, c1, hz, hn, h63', h48', Question.forced, h1, newRow, grownCap]
      congr 2
      apply Array.ext'
      simp [List.append_assoc]
  · subst h0
    have w00 : IntKind.i64.wrap 0 = 0 := by decide
    simp [Builtin.append_, run_underlying (J1Q hel), run_underlying hk, sizeOf, typeInfo, hinf, hsz, hbytes, asInt, asIntOf, w00]
theorem JkC (hi : Inv s) {esz bytes : Nat} {zero : List PV} {u v : AV} {c : Call} {x' y' : Operand} {t ut el : TypeId} (hop : o.op = .call c) (hcal : c.callee = .builtin .append)
    (hargs : c.args.toList = [x', y']) (htys : c.argTypes.toList = [t, ut]) (hel : elT P t = some el)
    (ht : (szT P el == some esz && byT P el == some bytes && Ja3 P zero el && zero.length == esz && decide (0 < esz) && decide (0 < bytes)) = true)
    (rx : Jr s u (a.eval x')) (hG : ∀ (i : TypeInfo) (z : Value) (new : List (List PV)), szT P el = some esz → P.info? el = some i → i.size = esz → i.bytes = bytes → i.zero = some z → zeT P el = some z → zero.length = z.cells.size → new.length * bytes ≤ 281474976710656 → new.length ≤ 281474976710656 → (JS esz v).run ⟨env, s.σ⟩ = some new →
      ∃ news, Jrv P esz bytes t ut o.type el z (a.eval y') new.length news s.w ∧ (∀ row ∈ new, row.length = esz) ∧
        ∀ (i j : Nat) row y, new[i]? = some row → row[j]? = some y → ∃ q, news[i * esz + j]? = some q ∧ JJ s.w s.g.C y q)
    (h'' : (J4s esz bytes u v).run ⟨env, s.σ⟩ = some e) : J0H P o a s e := by
  simp only [Bool.and_eq_true, beq_iff_eq, decide_eq_true_eq] at ht
  obtain ⟨⟨⟨⟨⟨hs, hby⟩, hz⟩, hzl⟩, hpos⟩, hbpos⟩ := ht
  obtain ⟨i, hinf, hsz⟩ := Jg4 hs
  obtain ⟨z, hz1, hz2, hz3⟩ := J5w hz
  have hbytes := Jhx hby hinf
  have hzero := JjQ hz1 hinf
  have hm : c.args.map a.eval = #[a.eval x', a.eval y'] := by apply Array.ext'; simp [hargs]
  have hty : c.argTypes = #[t, ut] := by apply Array.ext'; rw [htys]
  have hex : ∀ {q : Value} {w' : World}, (Builtin.append_ #[t, ut] o.type #[a.eval x', a.eval y']).run P s.w = .ok q w' → (execOp a.eval o).run P s.w = .ok (.value q) w' := by
    intro q w' hr
    simp [execOp, hop, resolve, hcal, hm, hty, invoke, builtin, hr]
  unfold J4s at h''
  split at h''
  · rename_i b j n
    simp only [RM.run] at h''
    split at h''
    · rename_i blk hb
      split at h''
      · rename_i wm esz' rows
        obtain ⟨new', h3, h4⟩ := bind_some h''
        clear h''
        split at h4
        · rename_i hcond
          obtain ⟨rfl, rfl, rfl, hroom⟩ := hcond
          simp only [RM.run] at h4; injection h4 with h4; subst h4
          have hb : s.σ[b]? = some (.arr wm esz rows) := hb
          have hroom : (2 * (rows.length + new'.length) + 512) * bytes ≤ 281474976710656 := by simpa [J63] using hroom
          have hneed : rows.length + new'.length ≤ 281474976710656 := by
            have h5 : (2 * (rows.length + new'.length) + 512) * 1 ≤ (2 * (rows.length + new'.length) + 512) * bytes := Nat.mul_le_mul_left _ hbpos
            omega
          have hmul : new'.length * bytes ≤ 281474976710656 := by
            have h5 : new'.length * bytes ≤ (2 * (rows.length + new'.length) + 512) * bytes := Nat.mul_le_mul_right _ (by omega)
            omega
          obtain ⟨news, hsrc, hnrow, hnget⟩ := hG i z new' hs hinf hsz hbytes hzero hz1 (by omega) hmul (by omega) h3
          have hnl := hsrc.newsLen
          have hslx := J6V.of_slr hi rx hb (by omega)
          simp only [List.drop_zero] at hslx
          generalize hzz : a.eval x' = zz at rx
          have hfit : ∀ {old : Nat}, old < rows.length + new'.length → Builtin.nextslicecap (rows.length + new'.length) old * i.bytes ≤ 281474976710656 := by
            intro old ho
            have h5 := nextslicecap_le ho
            rw [hbytes]
            have h6 : Builtin.nextslicecap (rows.length + new'.length) old * bytes ≤ (2 * (rows.length + new'.length) + 512) * bytes := Nat.mul_le_mul_right _ (by omega)
            omega
          have grow : ∀ {base : Option Addr} {cap : Nat}, zz = .slice base rows.length cap → cap < rows.length + new'.length →
              J0H P o a s ⟨.slr b 0 (rows.length + new'.length), [(b, .arr wm esz (rows ++ new'))]⟩ := by
            intro base cap hzv hlt
            rw [hzz] at hslx
            obtain ⟨ad, cap', vs, hv, hcap', hvlen, hvrel, hvmem, hvrow⟩ := hslx.cells
            rw [hzv] at hv
            injection hv with v1 v2 v3; subst v1 v3
            have hold : (Builtin.firstCells esz rows.length (.slice base rows.length cap)).run P s.w.drew = .ok vs.toArray s.w.drew := by
              rcases hvmem with hnil | ⟨r, o', rfl, hvm⟩
              · subst hnil
                simp at hvlen; subst hvlen
                cases base with
                | none => exact run_firstCells_none s.w.drew esz 0 0 cap
                | some ad => exact run_firstCells_some s.w.drew esz 0 ad 0 cap [] (by simp) (fun j u h => by simp at h)
              · exact run_firstCells_some s.w.drew esz _ _ _ cap vs hvlen (fun j q hj => by
                  have : s.w.drew.cell? (Addr.add ⟨r, o', none⟩ j) = s.w.cell? (Addr.add ⟨r, o', none⟩ j) := by simp
                  rw [this, J9C, J55]; exact hvm j q hj)
            have hrun := hsrc.grow base rows.length cap vs hold hlt (by omega) (by rw [← hbytes]; exact hfit hlt)
            have hge : rows.length + new'.length ≤ grownCap s.w (rows.length + new'.length) cap el := by unfold grownCap; simp [Question.cut]
            generalize grownCap s.w (rows.length + new'.length) cap el = nc at hrun hge
            have hne : new' ≠ [] := by rintro rfl; simp at hlt; omega
            have hzs : z.cells.size = esz := by omega
            obtain ⟨i0, t0⟩ := Jfa (w' := s.w.drew) hi rfl rfl rfl
            have hcsz : ((vs ++ news).toArray ++ Builtin.zeroCells z.cells (nc - (rows.length + new'.length))).size = nc * esz := by
              have : nc * esz = (rows.length + new'.length) * esz + (nc - (rows.length + new'.length)) * esz := by rw [← Nat.add_mul]; congr 1; omega
              rw [this, Nat.add_mul]
              simp [size_zeroCells, hvlen, hnl, hzs]
            obtain ⟨g', hμ, i', t'⟩ := Jsq (s0 := ⟨s.σ, s.g, s.w.drew⟩) i0 (w' := s.w.drew.alloc (.cells ((vs ++ news).toArray ++ Builtin.zeroCells z.cells (nc - (rows.length + new'.length))) el)) hb hne hvrow hnrow rfl rfl rfl
              (by rw [hcsz]; exact Nat.mul_le_mul_right _ hge) (fun k m row q hk hq => by
                have hm0 := Jb hq
                rcases J9K hk with hk | ⟨hgek, hk⟩
                · have hk0 := Jb hk
                  rw [hvrow row (JV hk)] at hm0
                  have hlt' := J4X hk0 hm0
                  have hfl := JjJ hvrow hk hq
                  obtain ⟨w, hw, hrel⟩ := hvrel _ q hfl
                  refine ⟨w, ?_, hrel.mono hi t0⟩
                  rw [Array.getElem?_append_left (by simp; omega)]
                  simp
                  rw [List.getElem?_append_left (by omega)]; exact hw
                · rw [hnrow row (JV hk)] at hm0
                  have hk0 := Jb hk
                  have hlt' := J4X hk0 hm0
                  obtain ⟨w, hw, hrel⟩ := hnget _ m row q hk hq
                  have e4 : k * esz + m = rows.length * esz + ((k - rows.length) * esz + m) := by
                    rw [← Nat.add_assoc, ← Nat.add_mul, Nat.add_sub_cancel' hgek]
                  refine ⟨w, ?_, hrel.mono hi t0⟩
                  rw [Array.getElem?_append_left (by simp; omega)]
                  simp
                  rw [List.getElem?_append_right (by omega), ← hw]; congr 1; omega)
            refine J23 (e := ⟨.slr b 0 (rows.length + new'.length), [(b, .arr wm esz (rows ++ new'))]⟩) (g' := g') (hex (by rw [hzz, hzv]; exact hrun)) i' (t0.trans t') ?_
            refine .slr b 0 _ _ wm esz (rows ++ new') ⟨_, _, rfl, .inr (by simp)⟩ (J0a hb) (by simp) fun _ => .inr ⟨_, nc, _, el, (0, 0), hμ, by simp, hge, J3J rfl, ?_⟩
            rw [Nat.zero_add, hcsz]; exact Nat.le_refl _
          cases rx with
          | slr _ _ _ _ wm' esz' rows' q0 q1 q2 q3 =>
            have q1 : s.σ[b]? = some (.arr wm' esz' rows') := q1
            rw [hb] at q1; injection q1 with q1; injection q1 with a1 a2 a3; subst a1 a2 a3
            rcases q3 (by omega) with ⟨m', _, hn0, hv⟩ | ⟨r, cap, cc, e1, fz, m', hv, hcap, hh, hsz'⟩
            · have hrnil : rows = [] := List.eq_nil_of_length_eq_zero hn0
              subst hrnil
              by_cases hnew : new' = []
              · subst hnew
                simp at hnl; subst hnl
                subst hv
                have hrun : (Builtin.append_ #[t, ut] o.type #[.slice none 0 0, a.eval y']).run P s.w = .ok (.slice none 0 0) s.w := by
                  exact hsrc.nil rfl
                have hset : s.σ.set b (.arr wm esz []) = s.σ := by
                  apply List.ext_getElem?
                  intro k
                  by_cases hk : k = b
                  · subst hk; rw [J0a hb, hb]
                  · rw [JD (Ne.symm hk)]
                refine J23 (e := ⟨.slr b 0 0, [(b, .arr wm esz [])]⟩) (g' := s.g) (hex (by rw [hzz]; exact hrun)) ?_ ?_ ?_
                · rw [Jg2, hset]; exact hi
                · rw [Jg2, hset]; exact .refl s
                · rw [Jg2, hset]
                  exact .slr b 0 0 _ wm esz [] ⟨none, 0, rfl, .inl rfl⟩ hb (Nat.le_refl _) fun _ => .inl ⟨m', rfl, rfl, rfl⟩
              · refine grow (cap := 0) hv ?_
                have := List.length_pos_iff.2 hnew
                simpa using this
            · subst hv
              by_cases hfits : rows.length + new'.length ≤ cap
              · rcases hi.arr b _ _ _ hb with ⟨m'', _⟩ | ⟨r', c', e', fz', m'', hh', hrow, hlen, hxx, hff⟩
                · rw [m'] at m''; cases m''
                · rw [m'] at m''; injection m'' with m''; injection m'' with m'' _; subst m''
                  rw [hh] at hh'; injection hh' with hh'; injection hh' with w1 w2 w3; subst w1 w2 w3
                  have hbnd : (rows.length + new'.length) * esz ≤ cc.size := by
                    have := Nat.mul_le_mul_right esz hfits
                    simp at hsz'; omega
                  have hadd : (rows.length + new'.length) * esz = rows.length * esz + new'.length * esz := Nat.add_mul _ _ _
                  have hput := J8o (vs := news) (o := rows.length * esz) hh (by omega)
                  obtain ⟨i', t'⟩ := Jtj hi hb m' hnrow hput hnl hnget
                  have hrun := hsrc.room r 0 rows.length cap hfits
                    (fun k hk => by rw [J55, J1Y hh]; simp; omega)
                    (fun k hk => by
                      have := hff.1 (0 + rows.length * esz + k) (by omega) (by omega)
                      simp only [World.frozen?, hh]
                      simpa using this)
                  simp only [Nat.zero_add] at hrun
                  obtain ⟨c0, e0, fz0, c'', p1, p2, p3, p4, p5, p6⟩ := hput.there
                  rw [hh] at p1; injection p1 with p1; injection p1 with w1 w2 w3; subst w1 w2 w3
                  refine J23 (e := ⟨.slr b 0 (rows.length + new'.length), [(b, .arr wm esz (rows ++ new'))]⟩) (hex (by rw [hzz]; simpa using hrun)) i' t' ?_
                  refine .slr b 0 _ _ wm esz (rows ++ new') ⟨_, _, rfl, .inr (by simp)⟩ (J0a hb) (by simp) fun _ => .inr ⟨r, cap, c'', e1, fz, m', by simp, hfits, p2, by rw [p3]; simpa using hsz'⟩
              · exact grow (cap := cap) rfl (by omega)
        · cases h4
      · cases h''
    · cases h''
  · cases h''
theorem Jmh (hi : Inv s) {esz bytes : Nat} {zero : List PV} {u v : AV} {c : Call} {x' y' : Operand} {t ut el : TypeId} (hop : o.op = .call c) (hcal : c.callee = .builtin .append)
    (hargs : c.args.toList = [x', y']) (htys : c.argTypes.toList = [t, ut]) (hut : ((elT P ut).isSome || J71 P ut) = true) (hel : elT P t = some el)
    (ht : (szT P el == some esz && byT P el == some bytes && Ja3 P zero el && zero.length == esz && decide (0 < esz) && decide (0 < bytes)) = true)
    (rx : Jr s u (a.eval x')) (ry : Jr s v (a.eval y')) (h'' : (J4s esz bytes u v).run ⟨env, s.σ⟩ = some e) : J0H P o a s e :=
  JkC hi hop hcal hargs htys hel ht rx (fun _ _ _ hs hinf hsz hbytes hzero _ _ _ _ h3 => by
    obtain ⟨news, hsrc, h1, h2⟩ := Jr0 (u := ut) hi h3 ry (Bool.or_eq_true_iff.1 hut)
    exact ⟨news, Src.gen hel hs hinf hsz hbytes hzero hsrc, h1, h2⟩) h''
theorem Jtw (hi : Inv s) (he : JQ s a.tmps env) {esz bytes zero x y} (h : (opR F (.appz esz bytes zero x y) new).run ⟨env, s.σ⟩ = some e) (hc : JA P (.appz esz bytes zero x y) o.op = true) : J0H P o a s e := by
  simp only [opR] at h
  obtain ⟨u, h1, h'⟩ := bind_some h
  obtain ⟨v, h2, h''⟩ := bind_some h'
  clear h h'
  unfold JA at hc
  simp only at hc
  split at hc
  · rename_i c hop
    split at hc
    · rename_i hcal
      split at hc
      · rename_i x' y' t ut hargs htys
        simp only [Bool.and_eq_true] at hc
        obtain ⟨⟨⟨hx, hy⟩, hut⟩, ht⟩ := hc
        split at ht
        · rename_i el hel
          split at hut
          · rename_i k hk
            split at h''
            · rename_i c1 hz1
              unfold zrs at hz1
              split at hz1
              · rename_i k' n
                split at hz1
                case isFalse => cases hz1
                rename_i hn
                injection hz1 with hz1
                subst hz1
                have ry := JI he h2 hy
                obtain ⟨m, rfl⟩ : ∃ m : Nat, n = (m : Int) := ⟨n.toNat, by omega⟩
                have hv : a.eval y' = .int k' (m : Int) := by
                  generalize a.eval y' = v0 at ry
                  cases ry with | p _ _ h => cases h with | i => rfl
                refine JkC hi hop hcal hargs htys hel (by simpa only [Bool.and_eq_true] using ht) (JI he h1 hx) (fun i z new hs hinf hsz hbytes hzero hz hzl hb1 hb2 h3 => ?_) h''
                simp only [JS, if_pos, RM.run, Int.toNat_natCast] at h3
                injection h3 with h3
                subst h3
                rw [List.length_replicate] at hb1 hb2
                simp only [Bool.and_eq_true, beq_iff_eq, decide_eq_true_eq] at ht
                obtain ⟨⟨⟨⟨⟨_, _⟩, hzok⟩, hzl2⟩, hpos⟩, _⟩ := ht
                obtain ⟨z', hz', hzl', hzr⟩ := J5w hzok
                rw [hz] at hz'; injection hz' with hz'; subst hz'
                have hzs : z.cells.size = esz := by omega
                have hget : ∀ (j : Nat) (u : Value), z.cells[j]? = some u → ∃ y : PV, zero[j]? = some y ∧ JJ s.w s.g.C y u := by
                  intro j u hu
                  have hj : j < zero.length := by
                    have := (Array.getElem?_eq_some_iff.1 hu).1
                    omega
                  exact ⟨zero[j], List.getElem?_eq_getElem hj, hzr j _ u (List.getElem?_eq_getElem hj) hu⟩
                refine ⟨(Builtin.zeroCells z.cells m).toList, ?_, fun row hr => by rw [(List.mem_replicate.1 hr).2]; exact hzl2, fun i j row y hrow hy => ?_⟩
                · rw [List.length_replicate, hv]
                  refine Jpa hel hs hinf hsz hbytes hzero hzs (fun u hu => ?_) hk hb1 hb2
                  obtain ⟨j, hj⟩ := List.getElem?_of_mem hu
                  obtain ⟨y, _, hr⟩ := hget j u (by simpa using hj)
                  exact hr.one
                · have hi' : i < m := by
                    have := Jb hrow
                    simpa using this
                  have hre : row = zero := (List.mem_replicate.1 (JV hrow)).2
                  subst hre
                  have hj := Jb hy
                  have hj' : j < z.cells.size := by omega
                  refine ⟨z.cells[j], ?_, hzr j y _ hy (Array.getElem?_eq_getElem hj')⟩
                  have hlt : i * esz + j < m * esz := J4X hi' (by omega)
                  unfold Builtin.zeroCells
                  rw [Array.getElem?_toList, Array.getElem?_map, hzs, Array.getElem?_range, if_pos hlt]
                  have e : (i * esz + j) % esz = j := by
                    rw [Nat.mul_comm, Nat.mul_add_mod]; exact Nat.mod_eq_of_lt (by omega)
                  simp only [Option.map_some, e]
                  rw [getElem!_pos z.cells _ hj']
              · cases hz1
            · cases h''
          · cases hut
        · cases ht
      · cases hc
    · cases hc
  · cases hc
theorem Jvy (hi : Inv s) (he : JQ s a.tmps env) {esz bytes zero x y} (h : (opR F (.app esz bytes zero x y) new).run ⟨env, s.σ⟩ = some e) (hc : JA P (.app esz bytes zero x y) o.op = true) : J0H P o a s e := by
  simp only [opR] at h
  obtain ⟨u, h1, h'⟩ := bind_some h
  obtain ⟨v, h2, h''⟩ := bind_some h'
  clear h h'
  unfold JA at hc
  simp only at hc
  split at hc
  · rename_i c hop
    split at hc
    · rename_i hcal
      split at hc
      · rename_i x' y' t ut hargs htys
        simp only [Bool.and_eq_true] at hc
        obtain ⟨⟨⟨hx, hy⟩, hut⟩, ht⟩ := hc
        split at ht
        · rename_i el hel
          exact Jmh hi hop hcal hargs htys hut hel (by simpa only [Bool.and_eq_true] using ht) (JI he h1 hx) (JI he h2 hy) h''
        · cases ht
      · cases hc
    · cases hc
  · cases hc
theorem Jur (hi : Inv s) (he : JQ s a.tmps env) (hn : s.σ[new]? = some .dead) {esz bytes zero y} (h : (opR F (.appn esz bytes zero y) new).run ⟨env, s.σ⟩ = some e) (hc : JA P (.appn esz bytes zero y) o.op = true) : J0H P o a s e := by
  simp only [opR] at h
  obtain ⟨v, h2, h'⟩ := bind_some h
  obtain ⟨rows, h3, h4⟩ := bind_some h'
  clear h h'
  unfold JA at hc
  simp only at hc
  split at hc
  · rename_i c hop
    split at hc
    · rename_i hcal
      split at hc
      · rename_i y' t ut hargs htys
        simp only [Bool.and_eq_true] at hc
        obtain ⟨⟨hy, hut⟩, ht⟩ := hc
        split at ht
        · rename_i el hel
          split at h4
          · rename_i hroom
            simp only [RM.run] at h4; injection h4 with h4; subst h4
            obtain ⟨i1, t1⟩ := Jgc hi hn esz
            have hself : (s.σ.set new (.arr true esz []))[new]? = some (.arr true esz []) := J0a hn
            have rx : Jr ⟨s.σ.set new (.arr true esz []), J5W s.g new none, s.w⟩ (.slr new 0 0) (a.eval (.const (.slice none 0 0))) :=
              .slr new 0 0 _ true esz [] ⟨none, 0, rfl, .inl rfl⟩ hself (Nat.le_refl _) fun _ => .inl ⟨if_pos rfl, rfl, rfl, rfl⟩
            have ry := (JI he h2 hy).mono hi t1
            have h3' : (JS esz v).run ⟨env, s.σ.set new (.arr true esz [])⟩ = some rows := by
              cases v with
              | slr b i n =>
                simp only [JS, RM.run] at h3 ⊢
                by_cases hb : b = new
                · subst hb; rw [hn] at h3; cases h3
                · rw [JD (Ne.symm hb)]
                  cases hq : s.σ[b]? with
                  | none => rw [hq] at h3; cases h3
                  | some B =>
                    rw [hq] at h3
                    cases B with
                    | arr w z rw' =>
                      simp only at h3 ⊢
                      split at h3
                      · rename_i hh; rw [if_pos hh]; exact h3
                      · cases h3
                    | _ => cases h3
              | p c => cases c <;> simp only [JS] at h3 ⊢ <;> first | exact h3 | (split at h3 <;> rename_i hh <;> first | (rw [if_pos hh]; exact h3) | cases h3) | cases h3
              | _ => cases h3
            have happ : (J4s esz bytes (.slr new 0 0) v).run ⟨env, s.σ.set new (.arr true esz [])⟩ = some ⟨.slr new 0 rows.length, [(new, .arr true esz rows)]⟩ := by
              simp only [J4s, RM.run, hself, run_bind, h3', Option.bind_some, List.length_nil, Nat.zero_add, List.nil_append]
              rw [if_pos ⟨by trivial, by trivial, by trivial, hroom⟩]; rfl
            have ok := Jmh (s := ⟨s.σ.set new (.arr true esz []), J5W s.g new none, s.w⟩) i1 hop hcal hargs htys hut hel (by simpa only [Bool.and_eq_true] using ht) rx ry happ
            intro next Q hnext
            refine ok next Q fun v' w' g' hi' ht' hr' => ?_
            have eσ : upd [(new, Blk.arr true esz rows)] (s.σ.set new (.arr true esz [])) = upd [(new, Blk.arr true esz rows)] s.σ := by
              simp only [Jg2, List.set_set]
            simp only at hi' ht' hr'
            rw [eσ] at hi' ht' hr'
            exact hnext v' w' g' hi' (t1.trans ht') hr'
          · cases h4
        · cases ht
      · cases hc
    · cases hc
  · cases hc
theorem Jto (hi : Inv s) (he : JQ s a.tmps env) (hn : s.σ[new]? = some .dead) {esz bytes zero x y} (h : (opR F (.appc esz bytes zero x y) new).run ⟨env, s.σ⟩ = some e) (hc : JA P (.appc esz bytes zero x y) o.op = true) : J0H P o a s e := by
  simp only [opR] at h
  obtain ⟨u, h1, h'⟩ := bind_some h
  obtain ⟨v, h2, h''⟩ := bind_some h'
  clear h h'
  unfold JA at hc
  simp only at hc
  split at hc
  · rename_i c hop
    split at hc
    · rename_i hcal
      split at hc
      · rename_i x' y' t ut hargs htys
        simp only [Bool.and_eq_true] at hc
        obtain ⟨⟨⟨hx, hy⟩, hut⟩, ht⟩ := hc
        split at ht
        · rename_i el hel
          simp only [Bool.and_eq_true, beq_iff_eq, decide_eq_true_eq] at ht
          obtain ⟨⟨⟨⟨⟨hs, hby⟩, hz⟩, hzl⟩, hpos⟩, hbpos⟩ := ht
          obtain ⟨i, hinf, hsz⟩ := Jg4 hs
          obtain ⟨z, hz1, hz2, hz3⟩ := J5w hz
          have hbytes := Jhx hby hinf
          have hzero := JjQ hz1 hinf
          have hm : c.args.map a.eval = #[a.eval x', a.eval y'] := by apply Array.ext'; simp [hargs]
          have hty : c.argTypes = #[t, ut] := by apply Array.ext'; rw [htys]
          have hex : ∀ {q : Value} {w' : World}, (Builtin.append_ #[t, ut] o.type #[a.eval x', a.eval y']).run P s.w = .ok q w' → (execOp a.eval o).run P s.w = .ok (.value q) w' := by
            intro q w' hr
            simp [execOp, hop, resolve, hcal, hm, hty, invoke, builtin, hr]
          have rx := JI he h1 hx
          have ry := JI he h2 hy
          unfold Jih at h''
          split at h''
          · rename_i esz' rows
            obtain ⟨add, h3, h4⟩ := bind_some h''
            clear h''
            split at h4
            · rename_i hcond
              obtain ⟨rfl, hne, hroom⟩ := hcond
              simp only [RM.run] at h4; injection h4 with h4; subst h4
              have hroom : (2 * (rows.length + add.length) + 512) * bytes ≤ 281474976710656 := by simpa [J63] using hroom
              have hneed : rows.length + add.length ≤ 281474976710656 := by
                have h5 : (2 * (rows.length + add.length) + 512) * 1 ≤ (2 * (rows.length + add.length) + 512) * bytes := Nat.mul_le_mul_left _ hbpos
                omega
              obtain ⟨news, hsrc0, hnrow, hnget⟩ := Jr0 (u := ut) hi h3 ry (Bool.or_eq_true_iff.1 hut)
              have hsrc := Src.gen (t := t) (ty := o.type) hel hs hinf hsz hbytes hzero hsrc0
              have hnl := hsrc.newsLen
              generalize hzz : a.eval x' = zz at rx
              cases rx with
              | p _ _ rx =>
                cases rx with
                | slc _ _ base hrel =>
                  have hslx := J6V.of_sl hrel
                  obtain ⟨ad, cap', vs, hv, hcap', hvlen, hvrel, hvmem, hvrow⟩ := hslx.cells
                  injection hv with v1 v2 v3; subst v1 v3
                  have hlt : rows.length < rows.length + add.length := by
                    omega
                  have hfit : Builtin.nextslicecap (rows.length + add.length) rows.length * i.bytes ≤ 281474976710656 := by
                    have h5 := nextslicecap_le hlt
                    rw [hbytes]
                    have h6 : Builtin.nextslicecap (rows.length + add.length) rows.length * bytes ≤ (2 * (rows.length + add.length) + 512) * bytes := Nat.mul_le_mul_right _ (by omega)
                    omega
                  have hold : (Builtin.firstCells esz rows.length (.slice base rows.length rows.length)).run P s.w.drew = .ok vs.toArray s.w.drew := by
                    rcases hvmem with hnil | ⟨r, o', rfl, hvm⟩
                    · subst hnil
                      simp at hvlen; subst hvlen
                      cases base with
                      | none => exact run_firstCells_none s.w.drew esz 0 0 0
                      | some ad => exact run_firstCells_some s.w.drew esz 0 ad 0 0 [] (by simp) (fun j u h => by simp at h)
                    · exact run_firstCells_some s.w.drew esz _ _ _ rows.length vs hvlen (fun j q hj => by
                        have : s.w.drew.cell? (Addr.add ⟨r, o', none⟩ j) = s.w.cell? (Addr.add ⟨r, o', none⟩ j) := by simp
                        rw [this, J9C, J55]; exact hvm j q hj)
                  have hrun := hsrc.grow base rows.length rows.length vs hold hlt (by omega) (by rw [← hbytes]; exact hfit)
                  have hge : rows.length + add.length ≤ grownCap s.w (rows.length + add.length) rows.length el := by unfold grownCap; simp [Question.cut]
                  generalize grownCap s.w (rows.length + add.length) rows.length el = nc at hrun hge
                  have hzs : z.cells.size = esz := by omega
                  obtain ⟨i0, t0⟩ := Jfa (w' := s.w.drew) hi rfl rfl rfl
                  have hcsz : ((vs ++ news).toArray ++ Builtin.zeroCells z.cells (nc - (rows.length + add.length))).size = nc * esz := by
                    have : nc * esz = (rows.length + add.length) * esz + (nc - (rows.length + add.length)) * esz := by rw [← Nat.add_mul]; congr 1; omega
                    rw [this, Nat.add_mul]
                    simp [size_zeroCells, hvlen, hnl, hzs]
                  have hlen : (rows ++ add).length = rows.length + add.length := List.length_append
                  obtain ⟨g', i', t', r'⟩ := Je9 (s0 := ⟨s.σ, s.g, s.w.drew⟩) (new := new) i0 hn (esz := esz) (rows := rows ++ add) (cap := nc) (w' := s.w.drew.alloc (.cells ((vs ++ news).toArray ++ Builtin.zeroCells z.cells (nc - (rows.length + add.length))) el)) rfl rfl rfl
                    (J9W.zero _ _)
                    ⟨fun row hr => (List.mem_append.1 hr).elim (hvrow row) (hnrow row), by rw [hcsz, hlen]; exact Nat.mul_le_mul_right _ hge, fun k m row q hk hq => by
                      have hm0 := Jb hq
                      rcases J9K hk with hk | ⟨hgek, hk⟩
                      · have hk0 := Jb hk
                        rw [hvrow row (JV hk)] at hm0
                        have hlt' := J4X hk0 hm0
                        have hfl := JjJ hvrow hk hq
                        obtain ⟨w, hw, hrel⟩ := hvrel _ q hfl
                        refine ⟨w, ?_, hrel.mono hi t0⟩
                        rw [Array.getElem?_append_left (by simp; omega)]
                        simp
                        rw [List.getElem?_append_left (by omega)]; exact hw
                      · rw [hnrow row (JV hk)] at hm0
                        have hk0 := Jb hk
                        have hlt' := J4X hk0 hm0
                        obtain ⟨w, hw, hrel⟩ := hnget _ m row q hk hq
                        have e4 : k * esz + m = rows.length * esz + ((k - rows.length) * esz + m) := by
                          rw [← Nat.add_assoc, ← Nat.add_mul, Nat.add_sub_cancel' hgek]
                        refine ⟨w, ?_, hrel.mono hi t0⟩
                        rw [Array.getElem?_append_left (by simp; omega)]
                        simp
                        rw [List.getElem?_append_right (by omega), ← hw]; congr 1; omega⟩ (by rw [hlen]; exact hge) (by rw [hcsz]; exact Nat.le_refl _)
                  rw [hlen] at r'
                  exact J23 (e := ⟨.slr new 0 (rows.length + add.length), [(new, .arr true esz (rows ++ add))]⟩) (g' := g') (hex (by rw [hzz]; exact hrun)) i' (t0.trans t') r'
            · cases h4
          · cases h''
        · cases ht
      · cases hc
    · cases hc
  · cases hc
end
end Go.Am
end
section
namespace Go.Am
theorem Jia : ∀ {k1 k2 : List KD} {xs ys : List PV} {r : Bool}, J1v (k1 ++ k2) xs ys = some r →
    ∃ r1 r2, J1v k1 (xs.take k1.length) (ys.take k1.length) = some r1 ∧ J1v k2 (xs.drop k1.length) (ys.drop k1.length) = some r2 ∧ r = (r1 && r2)
  | [], k2, xs, ys, r, h => ⟨true, r, by simp [J1v], by simpa using h, by simp⟩
  | k :: k1, k2, xs, ys, r, h => by
    cases xs with
    | nil => simp [J1v] at h
    | cons x xs =>
      cases ys with
      | nil => simp [J1v] at h
      | cons y ys =>
        simp only [List.cons_append, J1v] at h
        split at h
        · rename_i a c ha hc
          injection h with h; subst h
          obtain ⟨r1, r2, h1, h2, h3⟩ := Jia hc
          exact ⟨a && r1, r2, by simp [J1v, ha, h1], by simpa using h2, by rw [h3, Bool.and_assoc]⟩
        · cases h
theorem JdY : ∀ {ks : List KD} {xs ys : List PV} {r : Bool}, J1v ks xs ys = some r → xs.length = ks.length ∧ ys.length = ks.length
  | [], xs, ys, r, h => by cases xs <;> cases ys <;> simp [J1v] at h ⊢
  | k :: ks, xs, ys, r, h => by
    cases xs with
    | nil => simp [J1v] at h
    | cons x xs =>
      cases ys with
      | nil => simp [J1v] at h
      | cons y ys =>
        simp only [J1v] at h
        split at h
        · rename_i a c ha hc
          obtain ⟨h1, h2⟩ := JdY hc
          simp [h1, h2]
        · cases h
section
variable {P : Program} {F : Orc} {s : Sn} {a : Act} {env : List (Nat × AV)} {o : Oper} {new : Nat} {e : Eff}
def Jsi (P : Program) (t : TypeId) (vs : List Value) (X : Value) : Prop :=
  (agT P t = some true ∧ X = .agg vs.toArray) ∨ (agT P t = some false ∧ ∃ v, vs = [v] ∧ X = v)
theorem JcN {t : TypeId} {n off : Nat} {cs : Array Value} (hs : szT P t = some n) (hle : off + n ≤ cs.size) (hag : (agT P t = some true) ∨ (agT P t = some false ∧ n = 1)) (w : World) :
    ∃ X, (part t cs off).run P w = .ok X w ∧ Jsi P t ((cs.toList.drop off).take n) X := by
  rcases hag with h | ⟨h, rfl⟩
  · refine ⟨.agg (cs.extract off (off + n)), by simp [part, JbJ h, J2U hs], .inl ⟨h, ?_⟩⟩
    congr 1
    apply Array.ext'
    rw [Array.toList_extract]
    simp [List.extract]
  · have hlt : off < cs.size := by omega
    have hg : cs[off]? = some cs[off] := by simp [hlt]
    refine ⟨cs[off], by simp [part, JbJ h, hg], .inr ⟨h, cs[off], ?_, rfl⟩⟩
    have : cs.toList.drop off = cs[off] :: cs.toList.drop (off + 1) := by rw [List.drop_eq_getElem_cons (by simpa using hlt)]; simp
    rw [this]; rfl
def Jba (s : Sn) (xs : List PV) (vs : List Value) : Prop := xs.length = vs.length ∧ ∀ (i : Nat) x v, xs[i]? = some x → vs[i]? = some v → JJ s.w s.g.C x v
theorem Jba.take {xs vs} (h : Jba s xs vs) (n : Nat) : Jba s (xs.take n) (vs.take n) :=
  ⟨by simp [h.1], fun i x v hx hv => by
    rw [List.getElem?_take] at hx hv
    split at hx
    · rename_i hi; rw [if_pos hi] at hv; exact h.2 i x v hx hv
    · cases hx⟩
theorem Jba.drop {xs vs} (h : Jba s xs vs) (n : Nat) : Jba s (xs.drop n) (vs.drop n) :=
  ⟨by simp [h.1], fun i x v hx hv => by
    rw [List.getElem?_drop] at hx hv
    exact h.2 _ x v hx hv⟩
def EqK (P : Program) (s : Sn) (d : Nat) (t : TypeId) (ks : List KD) : Prop :=
  ∀ (e : Nat) (w : World) (xs ys : List PV) (vs us : List Value) (r : Bool) (X Y : Value), J1v ks xs ys = some r → Jba s xs vs → Jba s ys us → Jsi P t vs X → Jsi P t us Y →
    (Op.equalIn (d + e) t X Y).run P w = .ok r w
theorem JgY {d : Nat} {t : TypeId} {ks : List KD} (h : J9j P d t = some ks) : agT P t = some true ∨ (agT P t = some false ∧ ks.length = 1) := by
  cases d with
  | zero => simp [J9j] at h
  | succ d =>
    unfold J9j at h
    split at h <;> rename_i hu
    · injection h with h; subst h; exact .inr ⟨by simp [agT, hu, Jce], rfl⟩
    · injection h with h; subst h; exact .inr ⟨by simp [agT, hu, Jce], rfl⟩
    · injection h with h; subst h; exact .inr ⟨by simp [agT, hu, Jce], rfl⟩
    · exact .inl (by simp [agT, hu, Jce])
    · exact .inl (by simp [agT, hu, Jce])
    · cases h
theorem Jkp (d e : Nat) (IH : ∀ t ks, J9j P d t = some ks → EqK P s d t ks) (w : World) {xs ys : List PV} {vs us : List Value} (hx : Jba s xs vs) (hy : Jba s ys us) :
    ∀ {fs : List Field} {off : Nat} {ks : List KD} {r : Bool}, Jdg P (J9j P d) off fs = some ks → J1v ks (xs.drop off) (ys.drop off) = some r →
      (Op.eqFields (d + e) vs.toArray us.toArray fs).run P w = .ok r w
  | [], off, ks, r, h, hc => by
    simp [Jdg] at h; subst h
    cases hxd : xs.drop off <;> cases hyd : ys.drop off <;> simp [hxd, hyd, J1v] at hc
    subst hc
    simp [Op.eqFields]
  | f :: fs, off, ks, r, h, hc => by
    unfold Jdg at h
    split at h
    · cases h
    · rename_i hn
      have hname : f.name ≠ "_" := fun e => hn (.inl e)
      have hoff : f.offset = off := by
        by_cases h : f.offset = off
        · exact h
        · exact (hn (.inr h)).elim
      split at h
      · cases h
      · rename_i k1 hk1
        split at h
        · rename_i hsz
          obtain ⟨hsz, hpos⟩ := hsz
          split at h
          · rename_i k2 hk2
            injection h with h; subst h
            obtain ⟨r1, r2, c1, c2, rfl⟩ := Jia hc
            obtain ⟨l1, l2⟩ := JdY c1
            rw [List.length_take, List.length_drop] at l1 l2
            rw [List.drop_drop, List.drop_drop] at c2
            have hag := JgY hk1
            obtain ⟨X, pX, fX⟩ := JcN (P := P) (cs := vs.toArray) (off := off) hsz (by have := hx.1; simp; omega) hag w
            obtain ⟨Y, pY, fY⟩ := JcN (P := P) (cs := us.toArray) (off := off) hsz (by have := hy.1; simp; omega) hag w
            have he := IH f.type k1 hk1 e w _ _ _ _ r1 X Y c1 ((hx.drop off).take _) ((hy.drop off).take _) (by simpa using fX) (by simpa using fY)
            have ih := Jkp d e IH w hx hy hk2 c2
            simp only [Op.eqFields]
            rw [if_pos hname]
            simp only [Sem.run_bind, hoff, pX, pY, he, Result.andThen_ok, Sem.run_ite]
            cases r1
            · simp
            · simp [ih]
          · cases h
        · cases h
theorem Jnl (d e : Nat) {t : TypeId} {ks : List KD} (IH : EqK P s d t ks) (hk : J9j P d t = some ks) (hsz : szT P t = some ks.length) (hpos : 0 < ks.length) (w : World) {xs ys : List PV} {vs us : List Value} (hx : Jba s xs vs) (hy : Jba s ys us) :
    ∀ {m i : Nat} {r : Bool}, J1v (List.replicate m ks).flatten (xs.drop (i * ks.length)) (ys.drop (i * ks.length)) = some r →
      (Op.eqItems (d + e) t ks.length vs.toArray us.toArray (List.range' i m)).run P w = .ok r w
  | 0, i, r, hc => by
    simp only [List.replicate_zero, List.flatten_nil] at hc
    cases hxd : xs.drop (i * ks.length) <;> cases hyd : ys.drop (i * ks.length) <;> simp [hxd, hyd, J1v] at hc
    subst hc
    simp [Op.eqItems]
  | m + 1, i, r, hc => by
    rw [List.replicate_succ, List.flatten_cons] at hc
    obtain ⟨r1, r2, c1, c2, rfl⟩ := Jia hc
    obtain ⟨l1, l2⟩ := JdY c1
    rw [List.length_take, List.length_drop] at l1 l2
    rw [List.drop_drop, List.drop_drop] at c2
    have hag := JgY hk
    obtain ⟨X, pX, fX⟩ := JcN (P := P) (cs := vs.toArray) (off := i * ks.length) hsz (by have := hx.1; simp; omega) hag w
    obtain ⟨Y, pY, fY⟩ := JcN (P := P) (cs := us.toArray) (off := i * ks.length) hsz (by have := hy.1; simp; omega) hag w
    have he := IH e w _ _ _ _ r1 X Y c1 ((hx.drop _).take _) ((hy.drop _).take _) (by simpa using fX) (by simpa using fY)
    have ih := Jnl d e IH hk hsz hpos w hx hy (m := m) (i := i + 1) (r := r2) (by
      have : (i + 1) * ks.length = i * ks.length + ks.length := by rw [Nat.add_mul, Nat.one_mul]
      rw [this]; exact c2)
    rw [List.range'_succ]
    simp only [Op.eqItems, Sem.run_bind, pX, pY, he, Result.andThen_ok, Sem.run_ite]
    cases r1
    · simp
    · simp [ih]
theorem eqK : ∀ (d : Nat) (t : TypeId) (ks : List KD), J9j P d t = some ks → EqK P s d t ks
  | 0, t, ks, h => by simp [J9j] at h
  | d + 1, t, ks, h => by
    intro e w xs ys vs us r X Y hc hx hy fX fY
    have hde : d + 1 + e = (d + e) + 1 := by omega
    rw [hde]
    have hl := JdY hc
    unfold J9j at h
    have single : ∀ {k : KD}, agT P t = some false → ks = [k] → ∃ x y, xs = [x] ∧ ys = [y] ∧ JfW k x y = some r ∧ JJ s.w s.g.C x X ∧ JJ s.w s.g.C y Y := by
      rintro k hag rfl
      obtain ⟨x, rfl⟩ := List.length_eq_one_iff.1 hl.1
      obtain ⟨y, rfl⟩ := List.length_eq_one_iff.1 hl.2
      rcases fX with ⟨hag', _⟩ | ⟨_, v, rfl, rfl⟩
      · rw [hag] at hag'; cases hag'
      · rcases fY with ⟨hag', _⟩ | ⟨_, u, rfl, rfl⟩
        · rw [hag] at hag'; cases hag'
        · refine ⟨x, y, rfl, rfl, ?_, hx.2 0 x _ rfl rfl, hy.2 0 y _ rfl rfl⟩
          simp only [J1v] at hc
          cases hcp : JfW k x y with
          | none => simp [hcp] at hc
          | some b => simp [hcp] at hc; rw [hc]
    split at h <;> rename_i hu
    · injection h with h; subst h
      obtain ⟨x, y, rfl, rfl, hcp, rx, ry⟩ := single (by simp [agT, hu, Jce]) rfl
      cases rx <;> cases ry <;> simp only [JfW] at hcp <;> try (cases hcp; done)
      injection hcp with hcp; subst hcp
      rw [run_equalIn_bool w (d + e) t _ _ hu]
    · injection h with h; subst h
      obtain ⟨x, y, rfl, rfl, hcp, rx, ry⟩ := single (by simp [agT, hu, Jce]) rfl
      cases rx <;> cases ry <;> simp only [JfW] at hcp <;> try (cases hcp; done)
      split at hcp
      · rename_i hk
        obtain ⟨rfl, rfl⟩ := hk
        injection hcp with hcp; subst hcp
        rw [run_equalIn_int w (d + e) t _ _ _ _ hu]
      · cases hcp
    · injection h with h; subst h
      obtain ⟨x, y, rfl, rfl, hcp, rx, ry⟩ := single (by simp [agT, hu, Jce]) rfl
      cases rx <;> cases ry <;> simp only [JfW] at hcp <;> try (cases hcp; done)
      injection hcp with hcp; subst hcp
      rw [run_equalIn_string w (d + e) t _ _ hu, Jkx, Jkx]
    · rename_i fs
      split at h
      · cases h
      · rename_i hst
        have hag : agT P t = some true := by simp [agT, hu, Jce]
        rcases fX with ⟨_, rfl⟩ | ⟨hag', _⟩
        · rcases fY with ⟨_, rfl⟩ | ⟨hag', _⟩
          · have hfs : P.fieldsOf t = fs := by simp [Program.fieldsOf, hu]
            rw [run_equalIn_struct w (d + e) t _ _ (by rw [hfs]; exact hu) (by simpa using hst), hfs]
            exact Jkp d e (fun t ks hk => eqK d t ks hk) w hx hy h (by simpa using hc)
          · rw [hag] at hag'; cases hag'
        · rw [hag] at hag'; cases hag'
    · rename_i n el
      split at h
      · rename_i k1 hk1
        split at h
        · rename_i hsz
          injection h with h; subst h
          have hag : agT P t = some true := by simp [agT, hu, Jce]
          rcases fX with ⟨_, rfl⟩ | ⟨hag', _⟩
          · rcases fY with ⟨_, rfl⟩ | ⟨hag', _⟩
            · obtain ⟨i, hi, hisz⟩ := Jg4 hsz.1
              have hcell : P.cellsOf el = k1.length := by simp [Program.cellsOf, hi, hisz]
              rw [run_equalIn_array w (d + e) _ _ hu hi, hcell, List.range_eq_range']
              exact Jnl d e (eqK d el k1 hk1) hk1 hsz.1 hsz.2 w hx hy (i := 0) (by simpa using hc)
            · rw [hag] at hag'; cases hag'
          · rw [hag] at hag'; cases hag'
        · cases h
      · cases h
    · cases h
theorem Jot (hi : Inv s) (he : JQ s a.tmps env) {op ks x y} (h : (opR F (.bin op (.flat ks) x y) new).run ⟨env, s.σ⟩ = some e) (hc : JA P (.bin op (.flat ks) x y) o.op = true) : J0H P o a s e := by
  simp only [opR] at h
  obtain ⟨u, h1, h'⟩ := bind_some h
  obtain ⟨v, h2, h''⟩ := bind_some h'
  obtain ⟨r, h3, rfl⟩ := J1N h''
  clear h h' h''
  unfold JA at hc
  simp only at hc
  split at hc
  · rename_i op' t x' y' ty hop
    simp only [Bool.and_eq_true, beq_iff_eq] at hc
    obtain ⟨⟨rfl, hx⟩, ⟨⟨hy, hk⟩, hag⟩, hg⟩ := hc
    have rx := JI he h1 hx
    have ry := JI he h2 hy
    generalize hzx : a.eval x' = zx at rx
    generalize hzy : a.eval y' = zy at ry
    simp only [J0m] at h3
    split at h3
    · rename_i p q
      cases rx with
      | data _ vs p1 p2 =>
        cases ry with
        | data _ us q1 q2 =>
          have hb : ∃ b, J1v ks p q = some b := by
            cases hcm : J1v ks p q with
            | none => rw [hcm] at h3; cases op <;> simp [J8n] at h3
            | some b => exact ⟨b, rfl⟩
          obtain ⟨b, hb⟩ := hb
          rw [hb] at h3
          obtain ⟨ho, rfl⟩ := J6C h3
          have hguard : (eqGuard op t x' y' (.agg vs) (.agg us)).run P s.w = .ok () s.w := run_eqGuard_agg s.w op t x' y' vs us (by simpa using hg)
          have heq := eqK (P := P) (s := s) 100 t ks hk 9900 s.w p q vs.toList us.toList b (.agg vs) (.agg us) hb ⟨by simpa using p1, fun i x v hx hv => p2 i x v hx (by simpa using hv)⟩ ⟨by simpa using q1, fun i x v hx hv => q2 i x v hx (by simpa using hv)⟩ (.inl ⟨hag, by simp⟩) (.inl ⟨hag, by simp⟩)
          have hrun : (binOp op t (.agg vs) (.agg us)).run P s.w = .ok (.bool (if op = .eql then b else !b)) s.w := by
            rcases ho with rfl | rfl
            · rw [run_eql_struct]
              rw [show (10000 : Nat) = 100 + 9900 from rfl, heq]; rfl
            · rw [run_neq_struct]
              rw [show (10000 : Nat) = 100 + 9900 from rfl, heq]; rfl
          exact Js hi (by simp only [execOp, hop, hzx, hzy]; simp only [Sem.run_bind, hguard, Result.andThen_ok, hrun, Sem.run_pure]) (J6e _)
    · cases h3
  · cases hc
end
end Go.Am
end
section
namespace Go.Am
def get (s : St) : Loc → Option (AV ⊕ Blk)
  | .slot n => (lk n s.env).map .inl
  | .blk b => (s.sto[b]?).map .inr
theorem Jq8 {α : Type} (m : RM α) (s s' : St) (h : ∀ l ∈ m.reads s, get s' l = get s l) : m.run s' = m.run s := by
  induction m with
  | ret a => rfl
  | slot n k ih =>
    have h0 := h (.slot n) (by simp [RM.reads])
    have h0 : lk n s'.env = lk n s.env := by
      simp only [get] at h0
      cases h1 : lk n s'.env <;> cases h2 : lk n s.env <;> simp_all
    simp only [RM.run, h0]
    split
    · rename_i v hv
      exact ih v fun l hl => h l (by simp [RM.reads, hv, hl])
    · rfl
  | blk b k ih =>
    have h0 := h (.blk b) (by simp [RM.reads])
    have h0 : s'.sto[b]? = s.sto[b]? := by
      simp only [get] at h0
      cases h1 : s'.sto[b]? <;> cases h2 : s.sto[b]? <;> simp_all
    simp only [RM.run, h0]
    split
    · rename_i v hv
      exact ih v fun l hl => h l (by simp [RM.reads, hv, hl])
    · rfl
  | fail => rfl
theorem J6F {b : Nat} : ∀ {ws : List (Nat × Blk)}, b ∉ ws.map (·.1) → J2f b ws = none
  | [], _ => rfl
  | (c, x) :: r, h => by
    simp at h
    simp only [J2f]
    rw [J6F (by simpa using h.2)]
    simp; exact fun e => h.1 e.symm
theorem Jil {b : Nat} : ∀ {ws : List (Nat × Blk)}, b ∈ ws.map (·.1) → ∃ y, J2f b ws = some y
  | [], h => by simp at h
  | (c, x) :: r, h => by
    simp only [J2f]
    by_cases hr : b ∈ r.map (·.1)
    · obtain ⟨y, hy⟩ := Jil hr; exact ⟨y, by rw [hy]⟩
    · rw [J6F hr]
      simp only [List.map_cons, List.mem_cons] at h
      rcases h with h | h
      · exact ⟨x, by simp [h]⟩
      · exact absurd h hr
theorem Jga : ∀ (ws : List (Nat × Blk)) (σ : List Blk), (upd ws σ).length = σ.length
  | [], _ => rfl
  | y :: ws, σ => by show (upd ws (σ.set y.1 y.2)).length = _; rw [Jga ws]; simp
theorem Jax : ∀ (ws : List (Nat × Blk)) (σ : List Blk) (b : Nat), b < σ.length → (upd ws σ)[b]? = match J2f b ws with
    | some y => some y
    | none => σ[b]?
  | [], σ, b, _ => rfl
  | (c, x) :: ws, σ, b, h => by
    show (upd ws (σ.set c x))[b]? = _
    rw [Jax ws (σ.set c x) b (by simpa using h)]
    simp only [J2f]
    cases hl : J2f b ws with
    | some y => rfl
    | none =>
      by_cases hc : c = b
      · subst hc; simp [h]
      · simp [hc]
structure Run (F : Orc) (ins : List J0M) (new : Nat → Nat) (S : Nat → St) (eff : Nat → Eff) : Prop where
  step : ∀ k i, ins[k]? = some i → (J1E F i (new k)).run (S k) = some (eff k) ∧ S (k + 1) = put i.dst (eff k) (S k)
structure Jm1 (F : Orc) (ins : List J0M) (new : Nat → Nat) (S : Nat → St) (eff : Nat → Eff) (i j : Nat) : Prop where
  slotW : ∀ x y m, ins[i]? = some x → ins[j]? = some y → x.dst = some m → y.dst ≠ some m ∧ Loc.slot m ∉ (J1E F y (new j)).reads (S j)
  slotR : ∀ x y m, ins[i]? = some x → ins[j]? = some y → y.dst = some m → Loc.slot m ∉ (J1E F x (new i)).reads (S i)
  blkW : ∀ y b, ins[j]? = some y → b ∈ (eff i).ws.map (·.1) → b ∉ (eff j).ws.map (·.1) ∧ Loc.blk b ∉ (J1E F y (new j)).reads (S j)
  blkR : ∀ x b, ins[i]? = some x → b ∈ (eff j).ws.map (·.1) → Loc.blk b ∉ (J1E F x (new i)).reads (S i)
section
variable {F : Orc} {ins : List J0M} {new : Nat → Nat} {S : Nat → St} {eff : Nat → Eff}
def Ja7 (ins : List J0M) (k : Nat) : Option Nat := (ins[k]?).bind (·.dst)
def Jag (ins : List J0M) (eff : Nat → Eff) (s0 : St) (D : Nat → Bool) : Nat → Nat → Option AV
  | 0, m => lk m s0.env
  | k + 1, m => if D k = true ∧ Ja7 ins k = some m then some (eff k).val else Jag ins eff s0 D k m
def Jbi (eff : Nat → Eff) (s0 : St) (D : Nat → Bool) : Nat → Nat → Option Blk
  | 0, b => s0.sto[b]?
  | k + 1, b => if D k = true then (match J2f b (eff k).ws with
      | some y => some y
      | none => Jbi eff s0 D k b) else Jbi eff s0 D k b
structure Agree (ins : List J0M) (eff : Nat → Eff) (s0 : St) (D : Nat → Bool) (s : St) : Prop where
  slot : ∀ m, lk m s.env = Jag ins eff s0 D ins.length m
  len : s.sto.length = s0.sto.length
  blk : ∀ b, b < s0.sto.length → s.sto[b]? = Jbi eff s0 D ins.length b
theorem Jgd (hr : Run F ins new S eff) : ∀ k, k ≤ ins.length → (S k).sto.length = (S 0).sto.length
  | 0, _ => rfl
  | k + 1, h => by
    have hk : ins[k]? = some ins[k] := List.getElem?_eq_getElem (by omega)
    obtain ⟨_, h2⟩ := hr.step k _ hk
    rw [h2, ← Jgd hr k (by omega)]
    unfold put
    split <;> simp [Jga]
theorem JfY (hr : Run F ins new S eff) (D : Nat → Bool) : ∀ k, k ≤ ins.length → (∀ j, j < k → D j = true) → ∀ m, Jag ins eff (S 0) D k m = lk m (S k).env
  | 0, _, _, m => rfl
  | k + 1, h, hD, m => by
    have hk : ins[k]? = some ins[k] := List.getElem?_eq_getElem (by omega)
    obtain ⟨_, h2⟩ := hr.step k _ hk
    simp only [Jag]
    rw [JfY hr D k (by omega) (fun j hj => hD j (by omega)) m, h2]
    have hd : Ja7 ins k = ins[k].dst := by simp [Ja7, hk]
    rw [hd]
    unfold put
    cases hdk : ins[k].dst with
    | none => simp
    | some d =>
      simp only [lk]
      by_cases hm : m = d
      · subst hm; simp [hD k (by omega)]
      · simp [hm, Ne.symm hm]
theorem JhC (hr : Run F ins new S eff) (D : Nat → Bool) : ∀ k, k ≤ ins.length → (∀ j, j < k → D j = true) → ∀ b, b < (S 0).sto.length → Jbi eff (S 0) D k b = (S k).sto[b]?
  | 0, _, _, b, _ => rfl
  | k + 1, h, hD, b, hb => by
    have hk : ins[k]? = some ins[k] := List.getElem?_eq_getElem (by omega)
    obtain ⟨_, h2⟩ := hr.step k _ hk
    simp only [Jbi]
    rw [JhC hr D k (by omega) (fun j hj => hD j (by omega)) b hb, h2, if_pos (hD k (by omega))]
    have : (put ins[k].dst (eff k) (S k)).sto = upd (eff k).ws (S k).sto := by unfold put; split <;> rfl
    rw [this, Jax _ _ _ (by rw [Jgd hr k (by omega)]; exact hb)]
theorem Je4 {s0 : St} {D D' : Nat → Bool} {m : Nat} : ∀ n, (∀ j, j < n → Ja7 ins j = some m → D j = D' j) → Jag ins eff s0 D n m = Jag ins eff s0 D' n m
  | 0, _ => rfl
  | n + 1, h => by
    simp only [Jag]
    rw [Je4 n fun j hj => h j (by omega)]
    by_cases hd : Ja7 ins n = some m
    · rw [h n (by omega) hd]
    · simp [hd]
theorem Jfl {s0 : St} {D D' : Nat → Bool} {b : Nat} : ∀ n, (∀ j, j < n → b ∈ (eff j).ws.map (·.1) → D j = D' j) → Jbi eff s0 D n b = Jbi eff s0 D' n b
  | 0, _ => rfl
  | n + 1, h => by
    simp only [Jbi]
    rw [Jfl n fun j hj => h j (by omega)]
    by_cases hd : b ∈ (eff n).ws.map (·.1)
    · rw [h n (by omega) hd]
    · rw [J6F hd]; simp
theorem Jcy {s0 : St} {D : Nat → Bool} {m k : Nat} : ∀ n, k ≤ n → (∀ j, k ≤ j → j < n → Ja7 ins j = some m → D j = false) → Jag ins eff s0 D n m = Jag ins eff s0 D k m
  | 0, h, _ => by have : k = 0 := by omega
                  subst this; rfl
  | n + 1, h, hD => by
    by_cases hk : k = n + 1
    · subst hk; rfl
    · simp only [Jag]
      rw [Jcy n (by omega) fun j h1 h2 => hD j h1 (by omega)]
      by_cases hd : Ja7 ins n = some m
      · rw [hD n (by omega) (by omega) hd]; simp
      · simp [hd]
theorem JdV {s0 : St} {D : Nat → Bool} {b k : Nat} : ∀ n, k ≤ n → (∀ j, k ≤ j → j < n → b ∈ (eff j).ws.map (·.1) → D j = false) → Jbi eff s0 D n b = Jbi eff s0 D k b
  | 0, h, _ => by have : k = 0 := by omega
                  subst this; rfl
  | n + 1, h, hD => by
    by_cases hk : k = n + 1
    · subst hk; rfl
    · simp only [Jbi]
      rw [JdV n (by omega) fun j h1 h2 => hD j h1 (by omega)]
      by_cases hd : b ∈ (eff n).ws.map (·.1)
      · rw [hD n (by omega) (by omega) hd]; simp
      · rw [J6F hd]; simp
theorem Js1 (hr : Run F ins new S eff) {D : Nat → Bool} {s : St} (ha : Agree ins eff (S 0) D s) {k : Nat} {i : J0M} (hk : ins[k]? = some i) (hkD : D k = false)
    (hlow : ∀ j, j < k → D j = false → Jm1 F ins new S eff j k) (hhigh : ∀ j, k < j → j < ins.length → D j = true → Jm1 F ins new S eff k j) :
    (J1E F i (new k)).run s = some (eff k) ∧ Agree ins eff (S 0) (fun j => if j = k then true else D j) (put i.dst (eff k) s) := by
  have hklt : k < ins.length := by
    rcases Nat.lt_or_ge k ins.length with h | h
    · exact h
    · simp [List.getElem?_eq_none h] at hk
  have get_at : ∀ j, j < ins.length → ins[j]? = some ins[j]! := fun j hj => by simp [hj]
  have dst_at : ∀ j, j < ins.length → Ja7 ins j = ins[j]!.dst := fun j hj => by simp [Ja7, hj]
  obtain ⟨h1, h2⟩ := hr.step k i hk
  have hdk : Ja7 ins k = i.dst := by simp [Ja7, hk]
  let T : Nat → Bool := fun _ => true
  have reads : ∀ l ∈ (J1E F i (new k)).reads (S k), get s l = get (S k) l := by
    intro l hl
    cases l with
    | slot m =>
      simp only [get]
      rw [ha.slot m]
      congr 1
      rw [Jcy ins.length (k := k) (by omega) fun j hj1 hj2 hd => ?_]
      · rw [Je4 (D' := T) k fun j hj hd => ?_, JfY hr T k (by omega) (fun _ _ => rfl) m]
        cases hDj : D j with
        | true => rfl
        | false =>
          have := (hlow j hj hDj).slotW _ i m (get_at j (by omega)) hk (by rw [← dst_at j (by omega)]; exact hd)
          exact absurd hl this.2
      · by_cases hjk : j = k
        · subst hjk; exact hkD
        · cases hDj : D j with
          | false => rfl
          | true =>
            have := (hhigh j (by omega) hj2 hDj).slotR i _ m hk (get_at j hj2) (by rw [← dst_at j hj2]; exact hd)
            exact absurd hl this
    | blk b =>
      simp only [get]
      by_cases hb : b < (S 0).sto.length
      · rw [ha.blk b hb]
        congr 1
        rw [JdV ins.length (k := k) (by omega) fun j hj1 hj2 hd => ?_]
        · rw [Jfl (D' := T) k fun j hj hd => ?_, JhC hr T k (by omega) (fun _ _ => rfl) b hb]
          cases hDj : D j with
          | true => rfl
          | false => exact absurd hl ((hlow j hj hDj).blkW i b hk hd).2
        · by_cases hjk : j = k
          · subst hjk; exact hkD
          · cases hDj : D j with
            | false => rfl
            | true => exact absurd hl ((hhigh j (by omega) hj2 hDj).blkR i b hk hd)
      · rw [List.getElem?_eq_none (by have := ha.len; omega), List.getElem?_eq_none (by have := Jgd hr k (by omega); omega)]
  refine ⟨by rw [Jq8 _ (S k) s reads, h1], ?_, ?_, ?_⟩
  · intro m
    have hput : lk m (put i.dst (eff k) s).env = if i.dst = some m then some (eff k).val else lk m s.env := by
      unfold put
      cases i.dst with
      | none => simp
      | some d => simp only [lk]; by_cases hm : m = d <;> simp [hm, Ne.symm] <;> exact fun e => absurd e.symm hm
    rw [hput, ha.slot m]
    by_cases hm : i.dst = some m
    · rw [if_pos hm]
      rw [Jcy ins.length (k := k + 1) (by omega) fun j hj1 hj2 hd => ?_]
      · simp only [Jag]; simp [hdk, hm]
      · have hjk : j ≠ k := by omega
        simp only [if_neg hjk]
        cases hDj : D j with
        | false => rfl
        | true =>
          have := (hhigh j (by omega) hj2 hDj).slotW i _ m hk (get_at j hj2) hm
          exact absurd (by rw [← dst_at j hj2]; exact hd) this.1
    · rw [if_neg hm]
      refine Je4 _ fun j hj hd => ?_
      have hjk : j ≠ k := by rintro rfl; rw [hdk] at hd; exact hm hd
      simp [hjk]
  · have : (put i.dst (eff k) s).sto = upd (eff k).ws s.sto := by unfold put; split <;> rfl
    rw [this, Jga, ha.len]
  · intro b hb
    have : (put i.dst (eff k) s).sto = upd (eff k).ws s.sto := by unfold put; split <;> rfl
    rw [this, Jax _ _ _ (by rw [ha.len]; exact hb), ha.blk b hb]
    by_cases hw : b ∈ (eff k).ws.map (·.1)
    · obtain ⟨y, hy⟩ := Jil hw
      simp only [hy]
      rw [JdV (D := fun j => if j = k then true else D j) ins.length (k := k + 1) (by omega) fun j hj1 hj2 hd => ?_]
      · simp only [Jbi]; simp [hy]
      · have hjk : j ≠ k := by omega
        simp only [if_neg hjk]
        cases hDj : D j with
        | false => rfl
        | true => exact absurd hd ((hhigh j (by omega) hj2 hDj).blkW _ b (get_at j hj2) hw).1
    · rw [J6F hw]
      refine Jfl _ fun j hj hd => ?_
      have hjk : j ≠ k := by rintro rfl; exact hw hd
      simp [hjk]
theorem JnK : Agree ins eff (S 0) (fun _ => false) (S 0) := by
  refine ⟨fun m => ?_, rfl, fun b _ => ?_⟩
  · rw [Jcy ins.length (k := 0) (Nat.zero_le _) fun _ _ _ _ => rfl]; rfl
  · rw [JdV ins.length (k := 0) (Nat.zero_le _) fun _ _ _ _ => rfl]; rfl
theorem Jrd (hr : Run F ins new S eff) {D : Nat → Bool} {s : St} (ha : Agree ins eff (S 0) D s) (hD : ∀ j, j < ins.length → D j = true) :
    (∀ m, lk m s.env = lk m (S ins.length).env) ∧ s.sto = (S ins.length).sto := by
  refine ⟨fun m => by rw [ha.slot m, JfY hr D _ (Nat.le_refl _) hD m], List.ext_getElem? fun b => ?_⟩
  by_cases hb : b < (S 0).sto.length
  · rw [ha.blk b hb, JhC hr D _ (Nat.le_refl _) hD b hb]
  · rw [List.getElem?_eq_none (by have := ha.len; omega), List.getElem?_eq_none (by have := Jgd hr _ (Nat.le_refl _); omega)]
end
end Go.Am
end
section
namespace Go.Am
def oSl : Opd → List Nat
  | .t n => [n]
  | .c _ => []
def J89 : List Opd → List Nat
  | [] => []
  | x :: r => oSl x ++ J89 r
def Jpy : Option Opd → List Nat
  | none => []
  | some x => oSl x
def J09 : AOp → List Nat
  | .mv x | .box _ x | .appn _ _ _ x | .load _ _ x | .nilchk x | .un _ x | .conv _ x | .faddr _ x | .field _ _ _ x | .extr x _ | .len _ x => oSl x
  | .mkarr _ _ | .newbox _ | .alen _ => []
  | .pick c a b => oSl c ++ (oSl a ++ oSl b)
  | .build _ parts => J89 (parts.map (·.2.2))
  | .lits _ _ _ _ parts => J89 (parts.map (·.2))
  | .store _ x v => oSl x ++ oSl v
  | .bin _ _ x y | .iaddr _ x y | .aaddr _ _ x y | .sidx x y | .aidx _ _ _ x y | .app _ _ _ x y | .appz _ _ _ x y | .appc _ _ _ x y | .mm _ x y | .mkslice _ _ _ _ x y => oSl x ++ oSl y
  | .slice _ x lo hi mx => oSl x ++ (Jpy lo ++ (Jpy hi ++ Jpy mx))
  | .call _ args _ => J89 args
  | .callv g args _ => oSl g ++ J89 args
  | .mkfn _ a b => J89 a ++ J89 b
  | .newboxo _ _ => []
  | .buildo _ parts _ => J89 (parts.map (·.2.2))
  | .storen _ x => oSl x
  | .callo _ _ args _ => J89 args
def J8t (i : J0M) : List Nat := J09 i.op ++ match i.g with
  | some (g, _) => [g]
  | none => []
def JhQ : AOp → Bool
  | .mkarr _ _ | .newbox _ | .box _ _ | .lits _ _ _ _ _ | .store _ _ _ | .conv (.toBytes _) _ | .mkslice _ _ _ _ _ _ | .slice (.sl _) _ _ _ _ | .call _ _ _ | .callv _ _ _ | .app _ _ _ _ _ | .appz _ _ _ _ _ | .appc _ _ _ _ _ | .appn _ _ _ _ | .newboxo _ _ | .buildo _ _ _ | .storen _ _ | .callo _ _ _ _ => true
  | _ => false
def Jmd : AOp → Bool
  | .load _ _ _ | .iaddr _ _ _ | .conv .toStr _ => true
  | op => JhQ op
def Sl {α : Type} (L : List Nat) (m : RM α) : Prop := ∀ s n, Loc.slot n ∈ m.reads s → n ∈ L
section
variable {α β : Type} {L : List Nat}
theorem Jw (a : α) : Sl L (.ret a) := fun s n h => by simp [RM.reads] at h
theorem Jn : Sl L (.fail : RM α) := fun s n h => by simp [RM.reads] at h
theorem J8u {b : Nat} {k : Blk → RM α} (h : ∀ v, Sl L (k v)) : Sl L (.blk b k) := fun s n hn => by
  simp only [RM.reads, List.mem_cons] at hn
  rcases hn with hn | hn
  · cases hn
  · split at hn
    · exact h _ s n hn
    · simp at hn
theorem JoZ {m : Nat} {k : AV → RM α} (hm : m ∈ L) (h : ∀ v, Sl L (k v)) : Sl L (.slot m k) := fun s n hn => by
  simp only [RM.reads, List.mem_cons] at hn
  rcases hn with hn | hn
  · cases hn; exact hm
  · split at hn
    · exact h _ s n hn
    · simp at hn
theorem Jk {m : RM α} {f : α → RM β} (h : Sl L m) (hf : ∀ a, Sl L (f a)) : Sl L (m.bind f) := fun s n hn => by
  rw [J9Q, List.mem_append] at hn
  rcases hn with hn | hn
  · exact h s n hn
  · cases hr : m.run s with
    | none => simp [hr] at hn
    | some a => simp [hr] at hn; exact hf a s n hn
theorem JtP {L' : List Nat} {m : RM α} (h : Sl L m) (hl : ∀ x ∈ L, x ∈ L') : Sl L' m := fun s n hn => hl n (h s n hn)
theorem J1D {c : Prop} [Decidable c] {x y : RM α} (hx : Sl L x) (hy : Sl L y) : Sl L (if c then x else y) := by split <;> assumption
end
theorem J0I {L : List Nat} (x : Opd) (h : ∀ n ∈ oSl x, n ∈ L) : Sl L (ev x) := by
  cases x with
  | t n => exact JoZ (h n (by simp [oSl])) fun v => Jw v
  | c v => exact Jw v
theorem Jdr {L : List Nat} : ∀ (xs : List Opd), (∀ n ∈ J89 xs, n ∈ L) → Sl L (evs xs)
  | [], _ => Jw _
  | x :: xs, h => Jk (J0I x fun n hn => h n (by simp [J89, hn])) fun v => Jk (Jdr xs fun n hn => h n (by simp [J89, hn])) fun vs => Jw _
theorem Jna {L : List Nat} (x : Option Opd) (h : ∀ n ∈ Jpy x, n ∈ L) : Sl L (evo x) := by
  cases x with
  | none => exact Jw _
  | some x => exact Jk (J0I x h) fun v => Jw _
theorem J6B {L : List Nat} (x : Option AV) : Sl L (val x) := by cases x <;> first | exact Jn | exact Jw _
theorem JvH {L : List Nat} (x : AV) : Sl L (fz.fz1 x) := by
  cases x <;> try exact Jn
  · exact Jw _
  · refine J8u fun v => ?_
    cases v <;> first | exact Jn | exact J1D (Jw _) Jn
theorem Jr8 {L : List Nat} : ∀ (xs : List AV), Sl L (fz.fzL xs)
  | [] => Jw _
  | x :: xs => Jk (JvH x) fun _ => Jk (Jr8 xs) fun _ => Jw _
theorem Jjb {L : List Nat} (x : AV) : Sl L (fz x) := by
  cases x <;> try first | exact Jn | exact Jw _
  · exact Jr8 _
  · refine J8u fun v => ?_
    cases v <;> first | exact Jn | exact J1D (Jw _) Jn
theorem Jq6 {L : List Nat} : ∀ (xs : List Opd), (∀ n ∈ J89 xs, n ∈ L) → Sl L (fzs xs)
  | [], _ => Jw _
  | x :: xs, h => Jk (J0I x fun n hn => h n (by simp [J89, hn])) fun v => Jk (Jjb v) fun _ => Jk (Jq6 xs fun n hn => h n (by simp [J89, hn])) fun _ => Jw _
theorem JcL {L : List Nat} (esz : Nat) (x : AV) : Sl L (JS esz x) := by
  unfold JS
  split
  · exact J1D (Jw _) Jn
  · exact J1D (Jw _) Jn
  · refine J8u fun v => ?_
    cases v <;> first | exact Jn | exact J1D (Jw _) Jn
  · exact Jn
theorem JsT {L : List Nat} (agg : Bool) (size : Nat) (x : AV) : Sl L (J1X agg size x) := by
  unfold J1X
  split
  · split
    · exact J6B _
    · exact Jn
  · refine J8u fun v => ?_
    cases v <;> try exact Jn
    dsimp only
    split
    · exact J6B _
    · exact Jn
  · refine J8u fun v => ?_
    cases v <;> try exact Jn
    dsimp only
    refine J1D ?_ Jn
    split
    · split
      · exact J6B _
      · exact Jn
    · exact Jn
  · exact Jn
theorem JkH {L : List Nat} (size : Nat) (x v : AV) : Sl L (J1x size x v) := by
  unfold J1x
  split
  · refine J8u fun v => ?_
    cases v <;> try exact Jn
    dsimp only
    split
    · refine J1D ?_ Jn
      split
      · exact Jw _
      · exact Jn
    · exact Jn
  · refine J8u fun v => ?_
    cases v with
    | arr w esz rows =>
      cases w
      · exact Jn
      · dsimp only
        refine J1D ?_ Jn
        split
        · refine Jk (Jjb _) fun _ => J1D ?_ Jn
          split
          · exact Jw _
          · exact Jn
        · exact Jn
    | _ => exact Jn
  · exact Jn
theorem Jrc {L : List Nat} (esz : Nat) (x i : AV) : Sl L (J2R esz x i) := by
  unfold J2R
  split
  · refine J1D ?_ Jn
    split
    · exact Jw _
    · exact Jn
  · refine J8u fun v => ?_
    cases v <;> first | exact Jn | exact J1D (Jw _) Jn
  · exact Jn
theorem JoP {L : List Nat} (esz bytes : Nat) (x y : AV) : Sl L (J4s esz bytes x y) := by
  unfold J4s
  split
  · refine J8u fun v => ?_
    cases v <;> try exact Jn
    exact Jk (JcL _ _) fun _ => J1D (Jw _) Jn
  · exact Jn
theorem Jge {L : List Nat} (ws : List (Nat × Blk)) (b : Nat) : Sl L (J8j ws b) :=
  J8u fun v => by split <;> exact Jw _
theorem JbL {L : List Nat} (ws : List (Nat × Blk)) : ∀ (es acc : List Ent), Sl L (J8h ws es acc)
  | [], acc => Jw _
  | .whole b :: r, acc => Jk (Jge ws b) fun v => by cases v <;> exact JbL ws r _
  | .elem b e i :: r, acc => JbL ws r acc
theorem JjU {L : List Nat} (x : AV) : Sl L (J7x x) := by
  cases x <;> try first | exact Jn | exact Jw _
  · exact Jk (Jjb _) fun _ => Jw _
  · refine Jk (Jjb _) fun a => ?_
    split
    · exact Jw _
    · exact Jn
theorem Jmu {L : List Nat} : ∀ (xs : List AV), Sl L (Jz xs)
  | [] => Jw _
  | x :: xs => Jk (JjU x) fun _ => Jk (Jmu xs) fun _ => Jw _
theorem JrD {L : List Nat} (ws : List (Nat × Blk)) (ρ : Ent → Option Nat) (e : Ent) : Sl L (Je6 ws ρ e) := by
  cases e with
  | whole b =>
    refine Jk (Jge ws b) fun v => ?_
    cases v
    · exact Jn
    · dsimp only
      split
      · exact Jw _
      · exact Jn
    · exact Jw _
  | elem b e i =>
    refine Jk (Jge ws b) fun v => ?_
    cases v with
    | arr w esz rows =>
      cases w
      · exact Jn
      · dsimp only
        refine J1D ?_ Jn
        split
        · exact Jw _
        · exact Jn
    | _ => exact Jn
theorem JfV {L : List Nat} (ws : List (Nat × Blk)) (ρ : Ent → Option Nat) : ∀ (es : List Ent), Sl L (J5S ws ρ es)
  | [] => Jw _
  | e :: r => Jk (JrD ws ρ e) fun _ => Jk (JfV ws ρ r) fun _ => Jw _
theorem JqL {L : List Nat} (ws : List (Nat × Blk)) (es : List Ent) (new : Nat) (e : Ent) (x : Blk) : Sl L (Ja8 ws es new e x) := by
  unfold Ja8
  split
  · split
    · exact Jw _
    · exact Jn
  · exact Jw _
  · refine Jk (Jge ws _) fun v => ?_
    cases v <;> try exact Jn
    dsimp only
    split
    · exact Jw _
    · exact Jn
  · exact Jn
theorem JdU {L : List Nat} (ws : List (Nat × Blk)) (es : List Ent) (new : Nat) : ∀ (e : List Ent) (x : List Blk), Sl L (J3D ws es new e x)
  | [], _ => Jw _
  | _ :: _, [] => Jn
  | e :: r, x :: l => Jk (JqL ws es new e x) fun _ => Jk (JdU ws es new r l) fun _ => Jw _
theorem JmH {L : List Nat} (F : Orc) (f : FuncId) (args : List AV) (k new : Nat) : Sl L (J7A F f args k new) := by
  unfold J7A
  refine Jk (Jmu _) fun a => Jk (JbL _ _ _) fun es1 => Jk (JbL _ _ _) fun es => J1D ?_ Jn
  split
  · exact Jn
  · refine Jk (JfV _ _ _) fun blks => ?_
    split
    · exact Jn
    · refine J1D ?_ Jn
      split
      · exact Jk (JdU _ _ _ _ _) fun _ => Jw _
      · exact Jn
theorem Jq2 {L : List Nat} (F : Orc) (f : FuncId) (a : List AV × List (Nat × Blk)) (k new : Nat) : Sl L (J4C F f a k new) := by
  unfold J4C
  refine Jk (JbL _ _ _) fun es1 => Jk (JbL _ _ _) fun es => J1D ?_ Jn
  split
  · exact Jn
  · refine Jk (JfV _ _ _) fun blks => ?_
    split
    · exact Jn
    · refine J1D ?_ Jn
      split
      · exact Jk (JdU _ _ _ _ _) fun _ => Jw _
      · exact Jn
theorem JdQ {L : List Nat} : ∀ (m : List Bool) (xs : List AV), Sl L (J2g m xs)
  | _, [] => by cases ‹List Bool› <;> exact Jw _
  | [], x :: xs => Jk (JjU x) fun _ => Jk (JdQ [] xs) fun _ => Jw _
  | true :: m, x :: xs => Jk (JdQ m xs) fun _ => Jw _
  | false :: m, x :: xs => Jk (JjU x) fun _ => Jk (JdQ m xs) fun _ => Jw _
theorem JfX {L : List Nat} : ∀ (xs : List (Nat × Nat × Opd)), (∀ n ∈ J89 (xs.map (·.2.2)), n ∈ L) → Sl L (J2w xs)
  | [], _ => Jw _
  | (a, b, x) :: xs, h => by
    unfold J2w
    refine Jk (J0I x fun n hn => h n (by simp [J89, hn])) fun v => ?_
    split
    · exact Jk (JfX xs fun n hn => h n (by simp [J89, hn])) fun _ => Jw _
    · exact Jn
theorem Jvt (F : Orc) (op : AOp) (new : Nat) : Sl (J09 op) (opR F op new) := by
  cases op with
  | mv x => exact Jk (J0I x fun n h => h) fun v => Jw _
  | mkarr => exact Jw _
  | appn esz bytes zero y => exact Jk (J0I y fun n h => h) fun v => Jk (JcL _ _) fun _ => J1D (Jw _) Jn
  | pick c a b =>
    refine Jk (J0I c fun n h => by simp [J09, h]) fun v => ?_
    cases v with
    | p q => cases q with
      | b x => exact J1D (Jk (J0I a fun n h => by simp [J09, h]) fun _ => Jw _) (Jk (J0I b fun n h => by simp [J09, h]) fun _ => Jw _)
      | _ => exact Jn
    | _ => exact Jn
  | newbox => exact Jw _
  | box size x =>
    refine Jk (J0I x fun n h => h) fun v => ?_
    split
    · exact J1D (Jw _) Jn
    · exact Jn
  | build zero parts =>
    refine Jk (JfX parts fun n h => h) fun v => ?_
    split
    · exact J6B _
    · exact Jn
  | lits own esz n zero parts =>
    refine Jk (Jq6 _ fun n h => h) fun v => ?_
    split
    · exact J1D (Jw _) (Jw _)
    · exact Jn
  | load agg size x => exact Jk (J0I x fun n h => h) fun v => JsT _ _ _
  | store size x y => exact Jk (J0I x fun n h => by simp [J09, h]) fun v => Jk (J0I y fun n h => by simp [J09, h]) fun _ => JkH _ _ _
  | nilchk x =>
    refine Jk (J0I x fun n h => h) fun v => ?_
    cases v <;> first | exact Jw _ | exact Jn
  | bin op t x y => exact Jk (J0I x fun n h => by simp [J09, h]) fun v => Jk (J0I y fun n h => by simp [J09, h]) fun _ => J6B _
  | un op x => exact Jk (J0I x fun n h => h) fun v => J6B _
  | conv k x =>
    refine Jk (J0I x fun n h => h) fun v => ?_
    split
    · exact Jw _
    · exact Jw _
    · refine Jk (JcL _ _) fun _ => ?_
      split
      · exact Jw _
      · exact Jn
    · exact J1D (Jw _) (Jw _)
    · exact Jn
  | mkslice own esz bytes zero x y =>
    refine Jk (J0I x fun n h => by simp [J09, h]) fun v => Jk (J0I y fun n h => by simp [J09, h]) fun u => ?_
    split
    · exact J1D (J1D (Jw _) (Jw _)) Jn
    · exact Jn
  | slice k x lo hi mx =>
    refine Jk (J0I x fun n h => by simp [J09, h]) fun v => Jk (Jna lo fun n h => by simp [J09, h]) fun _ => Jk (Jna hi fun n h => by simp [J09, h]) fun _ => Jk (Jna mx fun n h => by simp [J09, h]) fun _ => ?_
    split
    · refine Jk (Jjb _) fun _ => ?_
      split
      · split
        · exact Jw _
        · exact Jn
      · exact Jn
    · exact J6B _
  | faddr off x => exact Jk (J0I x fun n h => h) fun v => J6B _
  | field agg off size x => exact Jk (J0I x fun n h => h) fun v => J6B _
  | iaddr esz x y => exact Jk (J0I x fun n h => by simp [J09, h]) fun v => Jk (J0I y fun n h => by simp [J09, h]) fun _ => Jrc _ _ _
  | aaddr len esz x y => exact Jk (J0I x fun n h => by simp [J09, h]) fun v => Jk (J0I y fun n h => by simp [J09, h]) fun _ => J6B _
  | sidx x y =>
    refine Jk (J0I x fun n h => by simp [J09, h]) fun v => Jk (J0I y fun n h => by simp [J09, h]) fun u => ?_
    split
    · refine J1D ?_ Jn
      split
      · exact Jw _
      · exact Jn
    · exact Jn
  | aidx agg len esz x y =>
    refine Jk (J0I x fun n h => by simp [J09, h]) fun v => Jk (J0I y fun n h => by simp [J09, h]) fun u => ?_
    split
    · exact J1D (J6B _) Jn
    · exact Jn
  | extr x i => exact Jk (J0I x fun n h => h) fun v => J6B _
  | call f args k => exact Jk (Jdr args fun n h => h) fun v => JmH _ _ _ _ _
  | callv g args k =>
    refine Jk (J0I g fun n h => by simp [J09, h]) fun v => ?_
    cases v <;> try exact Jn
    exact Jk (Jdr args fun n h => by simp [J09, h]) fun _ => JmH _ _ _ _ _
  | len str x => exact Jk (J0I x fun n h => h) fun v => J6B _
  | alen n => exact Jw _
  | appz esz bytes zero x y =>
    refine Jk (J0I x fun n h => by simp [J09, h]) fun v => Jk (J0I y fun n h => by simp [J09, h]) fun c => ?_
    split
    · exact JoP _ _ _ _
    · exact Jn
  | appc esz bytes zero x y =>
    refine Jk (J0I x fun n h => by simp [J09, h]) fun v => Jk (J0I y fun n h => by simp [J09, h]) fun c => ?_
    unfold Jih
    split
    · exact Jk (JcL _ _) fun _ => J1D (Jw _) Jn
    · exact Jn
  | app esz bytes zero x y => exact Jk (J0I x fun n h => by simp [J09, h]) fun v => Jk (J0I y fun n h => by simp [J09, h]) fun _ => JoP _ _ _ _
  | mm mx x y => exact Jk (J0I x fun n h => by simp [J09, h]) fun v => Jk (J0I y fun n h => by simp [J09, h]) fun _ => J6B _
  | mkfn f a b => exact Jk (Jdr a fun n h => by simp [J09, h]) fun v => Jk (Jdr b fun n h => by simp [J09, h]) fun _ => Jw _
  | newboxo => exact Jw _
  | buildo zero parts os =>
    refine Jk (JfX parts fun n h => h) fun v => ?_
    split
    · split
      · exact Jw _
      · exact Jn
    · exact Jn
  | storen esz x => exact Jk (J0I x fun n h => h) fun v => Jk (JkH _ _ _) fun _ => Jw _
  | callo f keep args k => exact Jk (Jdr args fun n h => h) fun v => Jk (JdQ _ _) fun _ => Jq2 _ _ _ _ _
theorem Jma {L : List Nat} : ∀ (k new : Nat), Sl L (J6E new k)
  | 0, _ => Jw _
  | k + 1, new => J8u fun v => by cases v <;> first | exact Jma k _ | exact Jn
theorem JoB (F : Orc) (i : J0M) (new : Nat) : Sl (J8t i) (J1E F i new) := by
  have h : Sl (J8t i) (opD F i.op new) := Jk (Jma _ _) fun _ => JtP (Jvt F i.op new) fun x hx => by simp [J8t, hx]
  unfold J1E
  split
  · exact h
  · rename_i g want hg
    refine JoZ (by simp [J8t, hg]) fun v => ?_
    split
    · exact J1D h (Jw _)
    · exact Jw _
    · exact Jn
end Go.Am
end
