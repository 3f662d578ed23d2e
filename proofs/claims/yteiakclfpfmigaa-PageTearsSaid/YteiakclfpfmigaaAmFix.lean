/-
  The abstract machine: the run as a least fixed point.
-/
import Derived.Test.YteiakclfpfmigaaAmRun
set_option linter.unusedSimpArgs false
set_option linter.unusedVariables false
namespace Go.Am

def below {α : Type} (a b : Option α) : Prop := a = none ∨ a = b

theorem below_refl {α : Type} (a : Option α) : below a a := .inr rfl

theorem run_bind {α β : Type} (m : RM α) (f : α → RM β) (s : St) : (m.bind f).run s = (m.run s).bind fun a => (f a).run s := by
  induction m with
  | ret a => rfl
  | slot n k ih => simp only [RM.bind, RM.run]; cases lk n s.env <;> simp [ih]
  | blk b k ih => simp only [RM.bind, RM.run]; cases s.sto[b]? <;> simp [ih]
  | fail => rfl

theorem below_bind {α β : Type} {m : RM α} {f f' : α → RM β} {s : St} (h : ∀ a, below ((f a).run s) ((f' a).run s)) : below ((m.bind f).run s) ((m.bind f').run s) := by
  rw [run_bind, run_bind]
  cases m.run s with
  | none => exact .inl rfl
  | some a => exact h a

variable {F F' : Orc} (h : ∀ f a b, below (F f a b) (F' f a b))

include h in
theorem callR_below (f : FuncId) (args : List AV) (k new : Nat) (s : St) : below ((callR F f args k new).run s) ((callR F' f args k new).run s) := by
  unfold callR
  refine below_bind fun a => below_bind fun es1 => below_bind fun es => ?_
  split
  · split
    · exact below_refl _
    · refine below_bind fun blks => ?_
      rcases h f ‹_› blks with e | e
      · rw [e]; exact .inl rfl
      · rw [e]; exact below_refl _
  · exact below_refl _

include h in
theorem opR_below (op : AOp) (new : Nat) (s : St) : below ((opR F op new).run s) ((opR F' op new).run s) := by
  cases op <;> try exact below_refl _
  case call f args k => exact below_bind fun vs => callR_below h ..
  case callv g args k =>
    refine below_bind fun g => ?_
    cases g <;> try exact below_refl _
    exact below_bind fun vs => callR_below h ..

include h in
theorem opD_below (op : AOp) (new : Nat) (s : St) : below ((opD F op new).run s) ((opD F' op new).run s) :=
  below_bind fun _ => opR_below h ..

include h in
theorem insR_below (i : AIns) (new : Nat) (s : St) : below ((insR F i new).run s) ((insR F' i new).run s) := by
  unfold insR
  split
  · exact opD_below h ..
  · simp only [RM.run]
    split
    · split
      · split
        · exact opD_below h ..
        · exact below_refl _
      · exact below_refl _
      · exact below_refl _
    · exact below_refl _

/-- The reads of an operation, where it ends, are the same under both. -/
theorem reads_bind {α β : Type} (m : RM α) (f : α → RM β) (s : St) : (m.bind f).reads s = m.reads s ++ ((m.run s).map fun a => (f a).reads s).getD [] := by
  induction m with
  | ret a => simp [RM.bind, RM.reads, RM.run]
  | slot n k ih => simp only [RM.bind, RM.reads, RM.run]; cases lk n s.env <;> simp [ih]
  | blk b k ih => simp only [RM.bind, RM.reads, RM.run]; cases s.sto[b]? <;> simp [ih]
  | fail => simp [RM.bind, RM.reads, RM.run]

theorem reads_bind_eq {α β : Type} {m : RM α} {f f' : α → RM β} {s : St} (h : ∀ a, (f a).run s = none ∨ (f a).reads s = (f' a).reads s) :
    ((m.bind f).run s) = none ∨ (m.bind f).reads s = (m.bind f').reads s := by
  rw [run_bind, reads_bind, reads_bind]
  cases m.run s with
  | none => exact .inl rfl
  | some a => exact (h a).imp (fun e => e) (fun e => by simp [e])

include h in
theorem callR_reads (f : FuncId) (args : List AV) (k new : Nat) (s : St) :
    (callR F f args k new).run s = none ∨ (callR F f args k new).reads s = (callR F' f args k new).reads s := by
  unfold callR
  refine reads_bind_eq fun a => reads_bind_eq fun es1 => reads_bind_eq fun es => ?_
  split
  · split
    · exact .inr rfl
    · refine reads_bind_eq fun blks => ?_
      rcases h f ‹_› blks with e | e
      · rw [e]; exact .inl rfl
      · rw [e]; exact .inr rfl
  · exact .inr rfl

include h in
theorem opR_reads (op : AOp) (new : Nat) (s : St) : (opR F op new).run s = none ∨ (opR F op new).reads s = (opR F' op new).reads s := by
  cases op <;> try exact .inr rfl
  case call f args k => exact reads_bind_eq fun vs => callR_reads h ..
  case callv g args k =>
    refine reads_bind_eq fun g => ?_
    cases g <;> try exact .inr rfl
    exact reads_bind_eq fun vs => callR_reads h ..

include h in
theorem opD_reads (op : AOp) (new : Nat) (s : St) : (opD F op new).run s = none ∨ (opD F op new).reads s = (opD F' op new).reads s :=
  reads_bind_eq fun _ => opR_reads h ..

include h in
theorem guard_reads (op : AOp) (want : Bool) (new : Nat) (s : St) (v : AV) :
    (RM.run (match v with
      | .p (.b x) => if x = want then opD F op new else .ret ⟨undefV, []⟩
      | .tup [] => .ret ⟨undefV, []⟩
      | _ => .fail) s) = none ∨ (RM.reads (match v with
      | .p (.b x) => if x = want then opD F op new else .ret ⟨undefV, []⟩
      | .tup [] => .ret ⟨undefV, []⟩
      | _ => .fail) s) = (RM.reads (match v with
      | .p (.b x) => if x = want then opD F' op new else .ret ⟨undefV, []⟩
      | .tup [] => .ret ⟨undefV, []⟩
      | _ => .fail) s) := by
  split
  · split
    · exact opD_reads h ..
    · exact .inr rfl
  · exact .inr rfl
  · exact .inr rfl

include h in
theorem insR_reads (i : AIns) (new : Nat) (s : St) : (insR F i new).run s = none ∨ (insR F i new).reads s = (insR F' i new).reads s := by
  unfold insR
  split
  · exact opD_reads h ..
  · simp only [RM.run, RM.reads]
    split
    · exact (guard_reads h ..).imp id (fun e => congrArg (Loc.slot _ :: ·) e)
    · exact .inl rfl

include h in
theorem runIns_below (ins : List AIns) : ∀ new s, below (runIns F ins new s) (runIns F' ins new s) := by
  induction ins with
  | nil => exact fun _ _ => below_refl _
  | cons i r ih =>
    intro new s
    simp only [runIns]
    rcases insR_below h i new s with e | e
    · rw [e]; exact .inl rfl
    · rw [e]
      split
      · exact ih _ _
      · exact below_refl _

include h in
theorem runLog_below (ins : List AIns) : ∀ new s l, below (runLog F ins new s l) (runLog F' ins new s l) := by
  induction ins with
  | nil => exact fun _ _ _ => below_refl _
  | cons i r ih =>
    intro new s l
    simp only [runLog]
    rcases insR_below h i new s with e | e
    · rw [e]; exact .inl rfl
    · rcases insR_reads h i new s with e' | e'
      · rw [e']; exact .inl rfl
      · rw [e, e']
        split
        · exact ih _ _ _
        · exact below_refl _

include h in
theorem region_below (pairs : List (Nat × Nat)) (ins : List AIns) (s : St) : below (region F pairs ins s) (region F' pairs ins s) := by
  unfold region
  split
  · exact runIns_below h ..
  · rcases runLog_below h ins s.sto.length ⟨s.env, Go.Am.room (news ins) s.sto⟩ [] with e | e
    · rw [e]; exact .inl rfl
    · rw [e]; exact below_refl _

variable {T : Tabl} {R R' : ACode → St → Option Out} (hR : ∀ c s, below (R c s) (R' c s))

include hR in
theorem callK_below (k : FkFn) (args : List AV) (blks : List Blk) : below (callK R k args blks) (callK R' k args blks) := by
  have ht : ∀ x s, below (fend k.af blks.length (thn (R x s) fun s => R k.rest s)) (fend k.af blks.length (thn (R' x s) fun s => R' k.rest s)) := by
    intro x s
    rcases hR x s with e | e
    · rw [e]; exact .inl rfl
    · rw [e]
      cases hx : R' x s with
      | none => exact .inl rfl
      | some o =>
        obtain ⟨q, s'⟩ := o
        cases q with
        | normal =>
          simp only [thn]
          rcases hR k.rest s' with e' | e'
          · rw [e']; exact .inl rfl
          · rw [e']; exact below_refl _
        | _ => exact below_refl _
  unfold callK
  rcases hR k.p0 ⟨enum 0 args, blks⟩ with e | e
  · rw [e]; exact .inl rfl
  · rw [e]
    split
    · rename_i s0 _
      rcases hR k.pre s0 with e | e
      · rw [e]; exact .inl rfl
      · rw [e]
        split
        · split
          · split
            · exact ht _ _
            · exact ht _ _
          · rename_i s1 _ _ _
            rcases ht k.a s1 with e | e
            · rw [e]; exact .inl rfl
            · rcases ht k.b s1 with e' | e'
              · rw [e']; unfold sameR; exact .inl (by split <;> simp_all)
              · rw [e, e']; exact below_refl _
          · exact below_refl _
        · exact below_refl _
    · exact below_refl _

include hR in
theorem callT_below (f : FuncId) (a : List AV) (b : List Blk) : below (callT T R f a b) (callT T R' f a b) := by
  unfold callT
  split
  · exact below_refl _
  · exact below_refl _
  · split
    · exact callK_below hR _ _ _
    · exact below_refl _
  · split
    · rcases hR ‹AFn›.body ⟨enum 0 a, b⟩ with e | e
      · rw [e]; exact .inl rfl
      · rw [e]; exact below_refl _
    · exact below_refl _

include hR in
theorem step_below (c : ACode) (s : St) : below (step T R c s) (step T R' c s) := by
  cases c with
  | skip => exact below_refl _
  | reg d pairs ins =>
    simp only [step]
    rcases region_below (callT_below (T := T) hR) pairs ins s with e | e
    · rw [e]; exact .inl rfl
    · rw [e]; exact below_refl _
  | seq a b =>
    simp only [step]
    rcases hR a s with e | e
    · rw [e]; exact .inl rfl
    · rw [e]
      split
      · exact hR _ _
      · exact below_refl _
  | cond c a b =>
    simp only [step]
    split
    · split
      · exact hR _ _
      · exact hR _ _
    · rcases hR a s with e | e
      · rw [e]; exact .inl rfl
      · rcases hR b s with e' | e'
        · rw [e']; unfold same; exact .inl (by split <;> simp_all)
        · rw [e, e']; exact below_refl _
    · exact below_refl _
  | block id c =>
    simp only [step]
    rcases hR c s with e | e
    · rw [e]; exact .inl rfl
    · rw [e]; exact below_refl _
  | loop live c =>
    simp only [step]
    split
    · exact hR _ _
    · exact below_refl _
  | lp n live c =>
    simp only [step]
    rcases hR c s with e | e
    · rw [e]; exact .inl rfl
    · rw [e]
      split
      · split
        · exact hR _ _
        · exact below_refl _
      · exact below_refl _
  | scope c => exact hR _ _
  | exit id => exact below_refl _
  | ret => exact below_refl _
  | keep live c => exact hR _ _
  | tidy live c =>
    simp only [step]
    rcases hR c s with e | e
    · rw [e]; exact .inl rfl
    · rw [e]; exact below_refl _
  | br live pre c a b rest =>
    have ht : ∀ x s, below (thn (R x s) fun s => R rest s) (thn (R' x s) fun s => R' rest s) := by
      intro x s
      rcases hR x s with e | e
      · rw [e]; exact .inl rfl
      · rw [e]
        unfold thn
        split
        · exact hR _ _
        · exact below_refl _
    simp only [step]
    rcases hR pre s with e | e
    · rw [e]; exact .inl rfl
    · rw [e]
      split
      · split
        · split
          · exact ht _ _
          · exact ht _ _
        · rename_i s1 _ _ _
          rcases ht a s1 with e | e
          · rw [e]; exact .inl rfl
          · rcases ht b s1 with e' | e'
            · rw [e']; unfold same; exact .inl (by split <;> simp_all [cleanO])
            · rw [e, e']; exact below_refl _
        · exact below_refl _
      · exact below_refl _

/-- Families of results that a step leads back into. -/
def Shut (T : Tabl) (M : ACode → St → Out → Prop) : Prop :=
  ∀ R : ACode → St → Option Out, (∀ c s r, R c s = some r → M c s r) → ∀ c s r, step T R c s = some r → M c s r

/-- What every run that ends tells: the least such family. -/
def Den (T : Tabl) (c : ACode) (s : St) (r : Out) : Prop := ∀ M, Shut T M → M c s r

theorem den_shut (T : Tabl) : Shut T (Den T) := fun R hR c s r h M hM => hM R (fun c s r h => hR c s r h M hM) c s r h

theorem den_inv {T : Tabl} {c : ACode} {s : St} {r : Out} (h : Den T c s r) : ∃ R : ACode → St → Option Out, (∀ c s r, R c s = some r → Den T c s r) ∧ step T R c s = some r :=
  h (fun c s r => ∃ R : ACode → St → Option Out, (∀ c s r, R c s = some r → Den T c s r) ∧ step T R c s = some r) fun R hR c s r hs =>
    ⟨R, fun c s r h => let ⟨R', h1, h2⟩ := hR c s r h; den_shut T R' h1 c s r h2, hs⟩

theorem den_det {T : Tabl} {c : ACode} {s : St} {r : Out} (h : Den T c s r) : ∀ r', Den T c s r' → r' = r := by
  have key : Den T c s r ∧ ∀ r', Den T c s r' → r' = r := h (fun c s r => Den T c s r ∧ ∀ r', Den T c s r' → r' = r) fun R hR c s r hs => by
    refine ⟨den_shut T R (fun c s r h => (hR c s r h).1) c s r hs, fun r' h' => ?_⟩
    obtain ⟨R', hR', hs'⟩ := den_inv h'
    have b1 : ∀ c s, below (R c s) ((R c s).or (R' c s)) := fun c s => by cases hc : R c s <;> simp [below]
    have b2 : ∀ c s, below (R' c s) ((R c s).or (R' c s)) := fun c s => by
      cases hc : R c s with
      | none => simp [below]
      | some a =>
        cases hc' : R' c s with
        | none => simp [below]
        | some a' => right; rw [(hR c s a hc).2 a' (hR' c s a' hc')]; rfl
    have e1 := step_below (T := T) b1 c s
    have e2 := step_below (T := T) b2 c s
    rw [hs] at e1
    rw [hs'] at e2
    rcases e1 with e1 | e1
    · cases e1
    · rcases e2 with e2 | e2
      · cases e2
      · rw [← e1] at e2; injection e2
  exact key.2

open Classical in
/-- The run of abstract code. -/
noncomputable def X (T : Tabl) (c : ACode) (s : St) : Option Out := if h : ∃ r, Den T c s r then some h.choose else none

theorem X_some {T : Tabl} {c : ACode} {s : St} {r : Out} : X T c s = some r ↔ Den T c s r := by
  unfold X
  constructor
  · intro h
    split at h
    · rename_i hex
      injection h with h; subst h
      exact hex.choose_spec
    · cases h
  · intro h
    rw [dif_pos ⟨r, h⟩]
    congr 1
    exact den_det h _ (Exists.choose_spec (⟨r, h⟩ : ∃ r, Den T c s r))

theorem X_pc (T : Tabl) (motive : ACode → St → Out → Prop)
    (h : ∀ R : ACode → St → Option Out, (∀ c s r, R c s = some r → motive c s r) → ∀ c s r, step T R c s = some r → motive c s r) : ∀ c s r, X T c s = some r → motive c s r :=
  fun c s r hx => X_some.1 hx motive h

theorem X_eq (T : Tabl) (c : ACode) (s : St) : X T c s = step T (X T) c s := by
  have one : ∀ r, step T (X T) c s = some r → X T c s = some r := fun r h => X_some.2 (den_shut T (X T) (fun c s r h => X_some.1 h) c s r h)
  cases hs : step T (X T) c s with
  | some r => exact one r hs
  | none =>
    cases hx : X T c s with
    | none => rfl
    | some r =>
      obtain ⟨R, hR, h⟩ := den_inv (X_some.1 hx)
      have := step_below (T := T) (R := R) (R' := X T) (fun c s => by
        cases hc : R c s with
        | none => exact .inl rfl
        | some a => right; exact (X_some.2 (hR c s a hc)).symm) c s
      rw [h, hs] at this
      rcases this with e | e <;> cases e

/-- A run with fuel, that a machine can do. -/
noncomputable def XF (T : Tabl) : Nat → ACode → St → Option Out
  | 0, _, _ => none
  | n + 1, c, s => step T (XF T n) c s

theorem XF_X (T : Tabl) : ∀ n c s, below (XF T n c s) (X T c s)
  | 0, _, _ => .inl rfl
  | n + 1, c, s => by rw [X_eq]; exact step_below (XF_X T n) c s

noncomputable def AF (T : Tabl) : Orc := callT T (X T)

theorem AF_of_fuel {T : Tabl} (n : Nat) {f : FuncId} {args : List AV} {blks : List Blk} {r : Res} (h : callT T (XF T n) f args blks = some r) : AF T f args blks = some r := by
  rcases callT_below (T := T) (XF_X T n) f args blks with e | e
  · rw [h] at e; cases e
  · unfold AF; rw [← e, h]

end Go.Am
