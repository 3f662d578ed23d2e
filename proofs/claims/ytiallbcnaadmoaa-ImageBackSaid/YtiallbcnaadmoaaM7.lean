/-
  Parts of a proof.
-/
import Derived.Below
import Derived.Laws.IdiomCopy
import Derived.Lib.SliceRun
import Derived.Test.YtiallbcnaadmoaaM1
import Derived.Test.YtiallbcnaadmoaaM3
import Derived.Test.YtiallbcnaadmoaaM4
import Derived.Test.YtiallbcnaadmoaaM5
set_option linter.unusedSimpArgs false
set_option linter.unusedVariables false
section
set_option linter.unusedSimpArgs false
set_option linter.unusedVariables false
namespace Go.Am
open Go.RowKit
theorem Jso {σ : List Blk} {g : Gh} {w w' : World} (hi : Inv ⟨σ, g, w⟩) (hb : Below w.heap.size w w') :
  Inv ⟨σ, g, w'⟩ ∧ JE ⟨σ, g, w⟩ ⟨σ, g, w'⟩ := by
 have hk : ∀ (r : Nat) x, w.heap[r]? = some x → w'.heap[r]? = some x := fun r x h => by rw [hb.block r (J0r h)]; exact h
 have hc : ∀ r o v, JY w r o = some v → JY w' r o = some v := by
  intro r o v h
  have hr : r < w.heap.size := by
   unfold JY at h
   split at h
   ·rename_i hx; exact J0r hx
   ·cases h
  unfold JY at h ⊢
  rw [hb.block r hr]
  exact h
 have t : JE ⟨σ, g, w⟩ ⟨σ, g, w'⟩ := by
  refine ⟨⟨hb.size, fun r c e fz h => ⟨c, hk r _ h, rfl, fun _ _ => rfl⟩, fun r x h _ => hk r x h, hb.os, hb.output⟩, fun _ _ h => h, fun _ _ h => .inl h, fun r o ⟨b, hb⟩ => .inl ⟨b, hb⟩, Nat.le_refl _, fun _ cs h => ⟨⟨cs, h, rfl⟩, rfl⟩,
   fun _ wm _ rows h => ⟨wm, rows, h, id, Nat.le_refl _, fun _ => rfl⟩⟩
 exact ⟨J7j hi t (fun _ => False) (fun _ _ => ⟨rfl, rfl⟩) (fun _ r o v _ _ h => hc r o v h) (fun _ _ h => h.elim) (fun _ _ _ _ h => h.elim)
  (fun _ _ _ _ h => h.elim) (fun r o h => Nat.lt_of_lt_of_le (hi.const r o h).1 hb.size) (fun _ _ _ _ h => h.elim) (fun _ _ _ h h' => (h' h).elim), t⟩
def Jca : PV → Option Value
 | .b x => some (.bool x)
 | .i k n => some (.int k n)
 | .s l => some (.string ⟨l.toArray⟩)
 | _ => none
theorem JmE {x : PV} {v : Value} (h : Jca x = some v) (w : World) (C : Nat → Nat → Prop) : JJ w C x v := by
 cases x <;> simp only [Jca, Option.some.injEq, reduceCtorEq] at h <;> subst h
 ·exact .b _
 ·exact .i _ _
 ·exact .s _
theorem Jow {x : PV} {v v' : Value} {w : World} {C : Nat → Nat → Prop} (h : JJ w C x v) (hv : Jca x = some v') : v = v' := by
 cases x <;> simp only [Jca, Option.some.injEq, reduceCtorEq] at hv <;> subst hv <;> cases h <;> rfl
theorem JjP {P : Program} {f : FuncId} {xs : List PV} {vs : List Value} {r : PV} {v : Value} {blks : List Blk}
  (hf : ∃ fn, P.funcs[f]? = some fn ∧ fn.body.isSome = true ∧ (fn.name == "runtime.NumGoroutine") = false)
  (hx : xs.mapM Jca = some vs) (hr : Jca r = some v)
  (hc : ∀ w, Calls P f vs.toArray w fun e w' => e = .returned v ∧ Below w.heap.size w w') :
  J74 P f (xs.map .p) blks (.p r, blks) := by
 refine ⟨hf, fun g w vals hi hl ha => ?_⟩
 have hvals : vals = vs.toArray := by
  have key : ∀ (xs : List PV) (vs vl : List Value), xs.mapM Jca = some vs → xs.length = vl.length →
    (∀ (i : Nat) x v, (xs.map AV.p)[i]? = some x → vl[i]? = some v → Jr ⟨blks, g, w⟩ x v) → vl = vs := by
   intro xs
   induction xs with
   | nil => intro vs vl h1 h2 _; simp at h1 h2; subst h1; exact List.length_eq_zero_iff.1 h2.symm
   | cons x r ih =>
    intro vs vl h1 h2 h3
    simp only [List.mapM_cons, Option.pure_def, Option.bind_eq_bind] at h1
    obtain ⟨v0, hv0, h1⟩ := Option.bind_eq_some_iff.1 h1
    obtain ⟨vr, hvr, h1⟩ := Option.bind_eq_some_iff.1 h1
    simp only [Option.some.injEq] at h1
    subst h1
    cases vl with
    | nil => simp at h2
    | cons u ur =>
     have := h3 0 (.p x) u rfl rfl
     cases this with
     | p _ _ hp =>
      rw [Jow hp hv0, ih vr ur hvr (by simpa using h2) (fun i x v hx hv => h3 (i + 1) x v hx hv)]
  apply Array.ext'
  rw [key xs vs vals.toList hx (by simpa using hl) (fun i x v h1 h2 => ha i x v h1 (by simpa using h2))]
 subst hvals
 refine (hc w).mono ?_
 rintro e w' ⟨rfl, hb⟩
 obtain ⟨hi', t⟩ := Jso hi hb
 exact ⟨v, g, rfl, hi', t, .p _ _ (JmE hr _ _)⟩
theorem Jkh {T : J5f} {f : FuncId} {g : List AV → List Blk → Option Res} (h : T f = some (.prim g)) (args blks) : AF T f args blks = g args blks := by
 unfold AF JaR; rw [h]
def Jrq (a : Option AFn) (k : Option Jcd) (g q : Option (List AV → List Blk → Option Res)) : Option J32 :=
 match a with
 | some a => some (.fn a)
 | none => match k with
  | some k => some (.fork k)
  | none => match g with
   | some g => some (.prim g)
   | none => q.map .prim
theorem J8C {a : Option AFn} {k : Option Jcd} {g q : Option (List AV → List Blk → Option Res)} {e : J32} (h : Jrq a k g q = some e) :
  (∃ x, a = some x ∧ e = .fn x) ∨ (∃ x, k = some x ∧ e = .fork x) ∨ (∃ x, g = some x ∧ e = .prim x) ∨ (∃ x, q = some x ∧ e = .prim x) := by
 cases a with
 | some a => exact .inl ⟨a, rfl, by injection h with h; exact h.symm⟩
 | none =>
  cases k with
  | some k => exact .inr (.inl ⟨k, rfl, by injection h with h; exact h.symm⟩)
  | none =>
   cases g with
   | some g => exact .inr (.inr (.inl ⟨g, rfl, by injection h with h; exact h.symm⟩))
   | none =>
    cases q with
    | some q => exact .inr (.inr (.inr ⟨q, rfl, by injection h with h; exact h.symm⟩))
    | none => cases h
def Jka (l : List UInt8) (n : Int) : Option (List UInt8) :=
 if 0 ≤ n ∧ n ≤ 9223372036854775807 ∧ l.length * n.toNat ≤ 140737488355328 then some (List.replicate n.toNat l).flatten else none
def JmC : List AV → List Blk → Option Res
 | [.p (.s l), .p (.i .i64 n)], blks => (Jka l n).map fun r => (.p (.s r), blks)
 | _, _ => none
def J5U (n : Int) (i : Nat) : Int := IntKind.wrap .u8 ((IntKind.wrap .u64 n).fdiv (2 ^ (8 * i)))
def Jj (n : Int) (k : Nat) : List UInt8 := toStr ((List.range k).map (J5U n))
def Jfr (l : List UInt8) (n size : Int) : Option (List UInt8) :=
 if size < 1 ∨ 8 < size then some l
 else if l.length + 8 ≤ 140737488355328 then some (l ++ Jj n size.toNat) else none
def Jnw : List AV → List Blk → Option Res
 | [.p (.s l), .p (.i .i64 n), .p (.i .i64 k)], blks => (Jfr l n k).map fun r => (.p (.s r), blks)
 | _, _ => none
theorem Juj (x : Int) : 0 ≤ IntKind.wrap .u8 x ∧ IntKind.wrap .u8 x < 256 := by
 have h : IntKind.wrap .u8 x = x % 256 := rfl
 rw [h]; omega
theorem Jjy (n : Int) (i : Nat) : ((UInt8.ofNat (J5U n i).toNat).toNat : Int) = J5U n i := by
 have h : 0 ≤ J5U n i ∧ J5U n i < 256 := Juj _
 have h2 : (J5U n i).toNat < 256 := by omega
 rw [UInt8.toNat_ofNat_of_lt' (by simpa using h2)]
 omega
theorem Jkn (n : Int) (k : Nat) : Jj n (k + 1) = Jj n k ++ [UInt8.ofNat (J5U n k).toNat] := by
 simp [Jj, toStr, List.range_succ]
theorem Jp (n : Int) (k : Nat) : (Jj n k).length = k := by simp [Jj, toStr]
theorem Jtd (k : IntKind) (x y : Int) : J1v [.i k] [.i k x] [.i k y] = some (decide (x = y)) := by
 by_cases h : x = y <;> simp [J1v, JfW, h]
theorem Jwc (x y : List UInt8) : J1v [.s] [.s x] [.s y] = some (decide (x = y)) := by
 by_cases h : x = y <;> simp [J1v, JfW, h]
theorem Jp7 {p q : Prop} [Decidable p] [Decidable q] : ∀ {k1 k2 : List KD} {a1 a2 b1 b2 : List PV}, J1v k1 a1 b1 = some (decide p) → J1v k2 a2 b2 = some (decide q) → J1v (k1 ++ k2) (cat a1 a2) (cat b1 b2) = some (decide (p ∧ q)) := by
 have key : ∀ (k1 k2 : List KD) (a1 a2 b1 b2 : List PV) (r s : Bool), J1v k1 a1 b1 = some r → J1v k2 a2 b2 = some s → J1v (k1 ++ k2) (a1 ++ a2) (b1 ++ b2) = some (r && s) := by
  intro k1
  induction k1 with
  | nil =>
   intro k2 a1 a2 b1 b2 r s h1 h2
   cases a1 <;> cases b1 <;> simp [J1v] at h1
   subst h1
   simpa using h2
  | cons k ks ih =>
   intro k2 a1 a2 b1 b2 r s h1 h2
   cases a1 with
   | nil => simp [J1v] at h1
   | cons a a1 =>
    cases b1 with
    | nil => simp [J1v] at h1
    | cons b b1 =>
     simp only [J1v] at h1
     split at h1
     ·rename_i u c hu hc
      injection h1 with h1
      subst h1
      simp only [List.cons_append, J1v, hu, ih _ _ _ _ _ _ _ hc h2, Bool.and_assoc]
     ·cases h1
 intro k1 k2 a1 a2 b1 b2 h1 h2
 rw [key _ _ _ _ _ _ _ _ h1 h2, Bool.decide_and]
end Go.Am
end
section
set_option linter.unusedSimpArgs false
set_option linter.unusedVariables false
namespace Go.Am
variable {P : Program}
structure J52 (r : Nat) (c c' : Array Value) (w w' : World) : Prop where
 os : w'.os = w.os
 out : w'.output = w.output
 size : w'.heap.size = w.heap.size
 at_ : ∃ et fz, w.heap[r]? = some (.cells c et fz) ∧ w'.heap[r]? = some (.cells c' et fz)
 csize : c'.size = c.size
 rest : ∀ k, k ≠ r → w'.heap[k]? = w.heap[k]?
theorem Jq1 {r o : Nat} {c : Array Value} {et : TypeId} {fz : Nat × Nat} {w : World} {v : Value} (h : w.heap[r]? = some (.cells c et fz)) (ho : o < c.size) :
  J52 r c (c.setIfInBounds o v) w (w.setCell ⟨r, o, none⟩ v) := by
 have hr : r < w.heap.size := J0r h
 have e : w.heap[r] = .cells c et fz := by
  have := Array.getElem?_eq_getElem hr
  rw [this] at h; injection h
 have hh : (w.setCell ⟨r, o, none⟩ v).heap[r]? = some (.cells (c.setIfInBounds o v) et fz) := by
  simp [World.setCell, Array.getElem?_modify, h]
  try simp [ho]
 exact ⟨rfl, rfl, by simp [World.setCell], ⟨et, fz, h, hh⟩, by simp, fun k hk => by simp [World.setCell, Array.getElem?_modify, Ne.symm hk]⟩
theorem J52.trans {r : Nat} {c c1 c2 : Array Value} {w w1 w2 : World} (h : J52 r c c1 w w1) (h' : J52 r c1 c2 w1 w2) : J52 r c c2 w w2 := by
 obtain ⟨et, fz, a, b⟩ := h.at_
 obtain ⟨et', fz', a', b'⟩ := h'.at_
 rw [b] at a'
 injection a' with a'
 injection a' with e1 e2 e3
 subst e2 e3
 exact ⟨h'.os.trans h.os, h'.out.trans h.out, h'.size.trans h.size, ⟨et, fz, a, b'⟩, h'.csize.trans h.csize, fun k hk => (h'.rest k hk).trans (h.rest k hk)⟩
theorem J7Q {r : Nat} {et : TypeId} {fz : Nat × Nat} : ∀ (vs : List Value) {o : Nat} {c : Array Value} {w : World}, w.heap[r]? = some (.cells c et fz) → o + vs.length ≤ c.size →
  ∃ c', J52 r c c' w (w.setCells r o vs) ∧ ∀ k, c'[k]? = if o ≤ k ∧ k < o + vs.length then vs[k - o]? else c[k]?
 | [], o, c, w, h, _ => ⟨c, ⟨rfl, rfl, rfl, ⟨et, fz, h, h⟩, rfl, fun _ _ => rfl⟩, fun k => by
   rw [if_neg (by simp only [List.length_nil]; omega)]⟩
 | v :: vs, o, c, w, h, hl => by
  have h1 := Jq1 (v := v) h (show o < c.size by simp at hl; omega)
  obtain ⟨et', fz', a, b⟩ := h1.at_
  rw [h] at a
  injection a with a
  injection a with e1 e2 e3
  subst e2 e3
  obtain ⟨c', h2, h3⟩ := J7Q vs (o := o + 1) b (by simp at hl ⊢; omega)
  refine ⟨c', h1.trans h2, fun k => ?_⟩
  rw [h3 k]
  by_cases hk : k = o
  ·subst hk
   rw [if_neg (by omega), if_pos (by simp), Nat.sub_self, Array.getElem?_setIfInBounds, if_pos rfl, if_pos (by simp at hl; omega)]
   rfl
  ·by_cases hr : o + 1 ≤ k ∧ k < o + 1 + vs.length
   ·rw [if_pos hr, if_pos (by simp; omega), show k - o = (k - (o + 1)) + 1 by omega]
    simp
   ·rw [if_neg hr, if_neg (by simp; omega), Array.getElem?_setIfInBounds, if_neg (Ne.symm hk)]
end Go.Am
end
