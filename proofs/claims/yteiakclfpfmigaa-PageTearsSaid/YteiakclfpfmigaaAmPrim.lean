/-
  The abstract machine: functions that are no abstract code: their answers are data, their runs leave what was there.
-/
import Derived.Test.YteiakclfpfmigaaAmStep
import Derived.Test.YteiakclfpfmigaaAmCall
import Derived.Test.YteiakclfpfmigaaAmEval
import Derived.Test.YteiakclfpfmigaaAmTy
import Derived.Below
set_option linter.unusedSimpArgs false
set_option linter.unusedVariables false
namespace Go.Am
open Go.RowKit

/-- Whatever a run added above: nothing below changes. -/
theorem below_ok {σ : List Blk} {g : Gh} {w w' : World} (hi : Inv ⟨σ, g, w⟩) (hb : Below w.heap.size w w') :
    Inv ⟨σ, g, w'⟩ ∧ Trans ⟨σ, g, w⟩ ⟨σ, g, w'⟩ := by
  have hk : ∀ (r : Nat) x, w.heap[r]? = some x → w'.heap[r]? = some x := fun r x h => by rw [hb.block r (lt_of_cells h)]; exact h
  have hc : ∀ r o v, cellAt w r o = some v → cellAt w' r o = some v := by
    intro r o v h
    have hr : r < w.heap.size := by
      unfold cellAt at h
      split at h
      · rename_i hx; exact lt_of_cells hx
      · cases h
    unfold cellAt at h ⊢
    rw [hb.block r hr]
    exact h
  have t : Trans ⟨σ, g, w⟩ ⟨σ, g, w'⟩ := by
    refine ⟨⟨hb.size, fun r c e fz h => ⟨c, hk r _ h, rfl, fun _ _ => rfl⟩, fun r x h _ => hk r x h, hb.os, hb.output⟩, fun _ _ h => h, fun _ _ h => .inl h, fun r o ⟨b, hb⟩ => .inl ⟨b, hb⟩, Nat.le_refl _, fun _ cs h => ⟨⟨cs, h, rfl⟩, rfl⟩,
      fun _ wm _ rows h => ⟨wm, rows, h, id, Nat.le_refl _, fun _ => rfl⟩⟩
  exact ⟨inv_of hi t (fun _ => False) (fun _ _ => ⟨rfl, rfl⟩) (fun _ r o v _ _ h => hc r o v h) (fun _ _ h => h.elim) (fun _ _ _ _ h => h.elim)
    (fun _ _ _ _ h => h.elim) (fun r o h => Nat.lt_of_lt_of_le (hi.const r o h).1 hb.size) (fun _ _ _ _ h => h.elim) (fun _ _ _ h h' => (h' h).elim), t⟩

/-- Values of data without slices. -/
def pval : PV → Option Value
  | .b x => some (.bool x)
  | .i k n => some (.int k n)
  | .s l => some (.string ⟨l.toArray⟩)
  | _ => none

theorem pval_rel {x : PV} {v : Value} (h : pval x = some v) (w : World) (C : Nat → Nat → Prop) : RelP w C x v := by
  cases x <;> simp only [pval, Option.some.injEq, reduceCtorEq] at h <;> subst h
  · exact .b _
  · exact .i _ _
  · exact .s _

theorem pval_of {x : PV} {v v' : Value} {w : World} {C : Nat → Nat → Prop} (h : RelP w C x v) (hv : pval x = some v') : v = v' := by
  cases x <;> simp only [pval, Option.some.injEq, reduceCtorEq] at hv <;> subst hv <;> cases h <;> rfl

/-- A function whose arguments and answer are plain data, and which leaves what was there. -/
theorem prim_ok {P : Program} {f : FuncId} {xs : List PV} {vs : List Value} {r : PV} {v : Value} {blks : List Blk}
    (hf : ∃ fn, P.funcs[f]? = some fn ∧ fn.body.isSome = true ∧ (fn.name == "runtime.NumGoroutine") = false)
    (hx : xs.mapM pval = some vs) (hr : pval r = some v)
    (hc : ∀ w, Calls P f vs.toArray w fun e w' => e = .returned v ∧ Below w.heap.size w w') :
    CallOk P f (xs.map .p) blks (.p r, blks) := by
  refine ⟨hf, fun g w vals hi hl ha => ?_⟩
  have hvals : vals = vs.toArray := by
    have key : ∀ (xs : List PV) (vs vl : List Value), xs.mapM pval = some vs → xs.length = vl.length →
        (∀ (i : Nat) x v, (xs.map AV.p)[i]? = some x → vl[i]? = some v → RelA ⟨blks, g, w⟩ x v) → vl = vs := by
      intro xs
      induction xs with
      | nil => intro vs vl h1 h2 _; simp at h1 h2; subst h1; exact List.length_eq_zero_iff.1 h2.symm
      | cons x r ih =>
        intro vs vl h1 h2 h3
        simp only [List.mapM_cons, Option.pure_def, Option.bind_eq_bind] at h1
        obtain ⟨v0, hv0, h1⟩ := Option.bind_eq_some_iff.1 h1
        obtain ⟨vr, hvr, h1⟩ := Option.bind_eq_some_iff.1 h1
        simp only [Option.some.injEq] at h1
        subst h1
        cases vl with
        | nil => simp at h2
        | cons u ur =>
          have := h3 0 (.p x) u rfl rfl
          cases this with
          | p _ _ hp =>
            rw [pval_of hp hv0, ih vr ur hvr (by simpa using h2) (fun i x v hx hv => h3 (i + 1) x v hx hv)]
    apply Array.ext'
    rw [key xs vs vals.toList hx (by simpa using hl) (fun i x v h1 h2 => ha i x v h1 (by simpa using h2))]
  subst hvals
  refine (hc w).mono ?_
  rintro e w' ⟨rfl, hb⟩
  obtain ⟨hi', t⟩ := below_ok hi hb
  exact ⟨v, g, rfl, hi', t, .p _ _ (pval_rel hr _ _)⟩

theorem AF_prim {T : Tabl} {f : FuncId} {g : List AV → List Blk → Option Res} (h : T f = some (.prim g)) (args blks) : AF T f args blks = g args blks := by
  unfold AF callT; rw [h]

/-! ### Tables -/

def tab4 (a : Option AFn) (k : Option FkFn) (g q : Option (List AV → List Blk → Option Res)) : Option Entry :=
  match a with
  | some a => some (.fn a)
  | none => match k with
    | some k => some (.fork k)
    | none => match g with
      | some g => some (.prim g)
      | none => q.map .prim

theorem tab4_cases {a : Option AFn} {k : Option FkFn} {g q : Option (List AV → List Blk → Option Res)} {e : Entry} (h : tab4 a k g q = some e) :
    (∃ x, a = some x ∧ e = .fn x) ∨ (∃ x, k = some x ∧ e = .fork x) ∨ (∃ x, g = some x ∧ e = .prim x) ∨ (∃ x, q = some x ∧ e = .prim x) := by
  cases a with
  | some a => exact .inl ⟨a, rfl, by injection h with h; exact h.symm⟩
  | none =>
    cases k with
    | some k => exact .inr (.inl ⟨k, rfl, by injection h with h; exact h.symm⟩)
    | none =>
      cases g with
      | some g => exact .inr (.inr (.inl ⟨g, rfl, by injection h with h; exact h.symm⟩))
      | none =>
        cases q with
        | some q => exact .inr (.inr (.inr ⟨q, rfl, by injection h with h; exact h.symm⟩))
        | none => cases h

/-! ### strings.Repeat, and a number written behind a string -/

def repS (l : List UInt8) (n : Int) : Option (List UInt8) :=
  if 0 ≤ n ∧ n ≤ 9223372036854775807 ∧ l.length * n.toNat ≤ 140737488355328 then some (List.replicate n.toNat l).flatten else none

def repP : List AV → List Blk → Option Res
  | [.p (.s l), .p (.i .i64 n)], blks => (repS l n).map fun r => (.p (.s r), blks)
  | _, _ => none

/-- One byte of a number. -/
def byteAt (n : Int) (i : Nat) : Int := IntKind.wrap .u8 ((IntKind.wrap .u64 n).fdiv (2 ^ (8 * i)))

def numS (n : Int) (k : Nat) : List UInt8 := toStr ((List.range k).map (byteAt n))

def putS (l : List UInt8) (n size : Int) : Option (List UInt8) :=
  if size < 1 ∨ 8 < size then some l
  else if l.length + 8 ≤ 140737488355328 then some (l ++ numS n size.toNat) else none

def putP : List AV → List Blk → Option Res
  | [.p (.s l), .p (.i .i64 n), .p (.i .i64 k)], blks => (putS l n k).map fun r => (.p (.s r), blks)
  | _, _ => none

theorem wrap_u8 (x : Int) : 0 ≤ IntKind.wrap .u8 x ∧ IntKind.wrap .u8 x < 256 := by
  have h : IntKind.wrap .u8 x = x % 256 := rfl
  rw [h]; omega

theorem byteAt_nat (n : Int) (i : Nat) : ((UInt8.ofNat (byteAt n i).toNat).toNat : Int) = byteAt n i := by
  have h : 0 ≤ byteAt n i ∧ byteAt n i < 256 := wrap_u8 _
  have h2 : (byteAt n i).toNat < 256 := by omega
  rw [UInt8.toNat_ofNat_of_lt' (by simpa using h2)]
  omega

theorem numS_succ (n : Int) (k : Nat) : numS n (k + 1) = numS n k ++ [UInt8.ofNat (byteAt n k).toNat] := by
  simp [numS, toStr, List.range_succ]

theorem numS_length (n : Int) (k : Nat) : (numS n k).length = k := by simp [numS, toStr]

end Go.Am
